/- That a region may be carried out in any order of its operations, and that the abstract run of a function's body is that of the model, for every program. -/
import Derived.Test.YteaiikmijhikpaaGreatDoorSxA
import Derived.Scope
set_option linter.all false
section
namespace Go.Sx
open Go

theorem lookup_hput (h : Heap) (b : Nat) (x : Blk) (c : Nat) : (hput h b x).lookup c = if c = b then some x else h.lookup c := by
  induction h with
  | nil =>
    by_cases e : c = b
    · subst e; simp [hput]
    · simp [hput, List.lookup, beq_false_of_ne e, e]
  | cons p h ih =>
    obtain ⟨d, y⟩ := p
    simp only [hput]
    by_cases hd : d = b
    · subst hd
      simp only [if_true]
      by_cases e : c = d
      · subst e; simp
      · simp [List.lookup, beq_false_of_ne e, e]
    · simp only [hd, if_false]
      by_cases e : c = d
      · subst e; simp [hd]
      · simp only [List.lookup, beq_false_of_ne e, ih]
theorem lookup_hputs (h : Heap) : ∀ (ws : Heap) (c : Nat), (hputs h ws).lookup c = (ws.lookup c).or (h.lookup c)
  | [], c => by simp [hputs]
  | (b, x) :: ws, c => by
    simp only [hputs, lookup_hput, lookup_hputs h ws]
    by_cases e : c = b
    · subst e; simp
    · simp [List.lookup, beq_false_of_ne e, e]

def setTl (tl : Nat → AV) (dst : Option Tmp) (v : AV) : Nat → AV := fun t => if dst = some t then v else tl t

theorem St.put_hl (S : St) (base : Base) (dst : Option Tmp) (e : Eff) : (S.put dst e).hl base = over (S.hl base) e.ws := by
  funext b
  simp only [St.hl, St.put, over, lookup_hputs]
  cases e.ws.lookup b <;> simp
theorem St.put_tl (S : St) (dst : Option Tmp) (e : Eff) (h : ∀ d, dst = some d → d < S.tm.length) : (S.put dst e).tl = setTl S.tl dst e.v := by
  funext t
  cases dst with
  | none => simp [St.tl, St.put, setTl]
  | some d =>
    have hd := h d rfl
    simp only [St.tl, St.put, setTl, Option.some.injEq]
    by_cases e' : d = t
    · subst e'; rw [Tm.get_set]
    · rw [Tm.get_set, if_neg (fun h => e' h.symm), if_neg e']
theorem St.put_len (S : St) (dst : Option Tmp) (e : Eff) : (S.put dst e).tm.length = S.tm.length := by
  cases dst <;> simp [St.put, Tm.set]

/-- The blocks that an effect names are new ones, in its range, or such as were there. -/
def WsOk (hl : Nat → Option Blk) (nx : Nat) (e : Eff) : Prop :=
  nx ≤ e.nx ∧ ∀ b x, e.ws.lookup b = some x → (nx ≤ b ∧ b < e.nx) ∨ hl b ≠ none

section
variable {C : Ctx} {Pre : Nat → List D → Prop} {ρ : Nat → Option Nat} {w : World} {hl : Nat → Option Blk} {a : Act} {tl : Nat → AV} {nt nx : Nat}

theorem wsOk_nil (v : AV) (b : List Nat) : WsOk hl nx ⟨v, [], nx, b⟩ := ⟨Nat.le_refl _, fun b x h => by simp at h⟩
theorem wsOk_new (v : AV) (x : Blk) (b : List Nat) : WsOk hl nx ⟨v, [(nx, x)], nx + 1, b⟩ := ⟨by simp, fun c y h => by
  simp only [List.lookup] at h
  by_cases e : c = nx
  · subst e; exact .inl ⟨Nat.le_refl _, by simp⟩
  · simp [beq_false_of_ne e] at h⟩

/-- Every operation's effect is in order. -/
theorem opEval_wsOk {G : Nat → Option (List Value)} {P : PV} {call : FuncId → List AV → X Eff} {o : Oper} {eff : Eff}
    (hcall : ∀ f args e, (call f args).Ev C Pre e → WsOk hl nx e) (h : (opEval P G call tl hl nx o).Ev C Pre eff) : WsOk hl nx eff := by
  obtain ⟨dst, op, type, pos, after, guard⟩ := o
  unfold opEval at h
  simp only [PV.und_of, PV.info_of] at h
  replace h := (X.ev_bguard h).2
  have bo : ∀ {β : Type} {s : String} {ob : Option β} {f : β → X Eff}, (∀ y, (f y).Ev C Pre eff → WsOk hl nx eff) → ((X.opt s ob).bind f).Ev C Pre eff → WsOk hl nx eff :=
    fun hf h => let ⟨y, _, h⟩ := X.ev_bopt h; hf y h
  have bg : ∀ {b : Bool} {s : String} {f : Unit → X Eff}, ((f ()).Ev C Pre eff → WsOk hl nx eff) → ((X.guard b s).bind f).Ev C Pre eff → WsOk hl nx eff :=
    fun hf h => hf (X.ev_bguard h).2
  have bw : ∀ {t : T} {f : Unit → X Eff}, ((f ()).Ev C Pre eff → WsOk hl nx eff) → ((X.want t).bind f).Ev C Pre eff → WsOk hl nx eff :=
    fun hf h => hf (X.ev_bwant h).2
  have r0 : ∀ {v : AV} {rd : List Nat}, (X.pure ⟨v, [], nx, rd⟩ : X Eff).Ev C Pre eff → WsOk hl nx eff := fun h => by rw [X.ev_ret h]; exact wsOk_nil _ _
  have bf : ∀ {s : String}, (X.fail s : X Eff).Ev C Pre eff → WsOk hl nx eff := fun h => False.elim h
  have rn : ∀ {v : AV} {x : Blk} {rd : List Nat}, (X.pure ⟨v, [(nx, x)], nx + 1, rd⟩ : X Eff).Ev C Pre eff → WsOk hl nx eff := fun h => by rw [X.ev_ret h]; exact wsOk_new _ _ _
  cases op <;> (try simp only at h) <;> try (exact h.elim)
  case store t x y =>
    split at h
    · rename_i b p hb
      split at h
      · rename_i l el hbl
        refine bo (fun s h => bg (fun h => ?_) h) h
        rw [X.ev_ret h]
        refine ⟨Nat.le_refl _, fun c y h => ?_⟩
        simp only [List.lookup] at h
        by_cases e : c = b
        · subst e; exact .inr (by rw [hbl]; simp)
        · simp [beq_false_of_ne e] at h
      · exact h.elim
    · exact h.elim
  case pick c x y =>
    repeat' split at h
    all_goals first
      | exact r0 h
      | exact h.elim
      | (obtain ⟨r, _, h2⟩ := X.ev_bind h; exact r0 h2)
  case binOp bo' t x y yt =>
    obtain ⟨v, _, h⟩ := X.ev_bind h
    exact r0 h
  case call c =>
    split at h
    · exact bo (fun v h => r0 h) h
    · split at h
      · split at h
        · unfold extA at h
          split at h
          · exact bw (fun h => by rw [X.ev_ret h]; exact wsOk_nil _ _) h
          · exact h.elim
        · exact hcall _ _ _ h
      · exact h.elim
    · exact h.elim
  case indexAddr t x i =>
    repeat' split at h
    all_goals first
      | exact h.elim
      | exact bg (fun h => bo (fun _ h => r0 h) h) h
      | exact bo (fun _ h => bo (fun _ h => bw (fun h => bw (fun h => r0 h) h) h) h) h
      | exact bo (fun _ h => bg (fun h => bo (fun _ h => r0 h) h) h) h
      | exact bo (fun _ h => bo (fun _ h => bg (fun h => r0 h) h) h) h
      | exact bo (fun _ h => bg (fun h => r0 h) h) h
      | exact bo (fun _ h => bg (fun h => bw (fun h => bw (fun h => by obtain ⟨_, _, h⟩ := X.ev_bind h; exact r0 h) h) h) h) h
      | exact bo (fun _ h => bg (fun h => bw (fun h => bw (fun h => r0 h) h) h) h) h
      | exact bo (fun _ h => bf h) h
  case slice t x lo hi mx =>
    cases mx with
    | some m => exact h.elim
    | none =>
      simp only at h
      split at h
      · exact bo (fun _ h => bo (fun _ h => bo (fun _ h => bg (fun h => r0 h) h) h) h) h
      · exact h.elim
  all_goals first
    | exact r0 h
    | exact bo (fun _ h => r0 h) h
    | exact bg (fun h => rn h) h
    | exact bo (fun _ h => bg (fun h => rn h) h) h
    | (repeat' split at h
       all_goals first
        | exact r0 h
        | exact h.elim
        | exact bo (fun _ h => bg (fun h => bo (fun _ h => r0 h) h) h) h
        | exact bw (fun h => bw (fun h => r0 h) h) h
        | exact bo (fun _ h => bo (fun _ h => bg (fun h => bg (fun h => bo (fun _ h => rn h) h) h) h) h) h
        | exact bo (fun _ h => bo (fun _ h => bo (fun _ h => bo (fun _ h => bg (fun h => rn h) h) h) h) h) h)
    | (refine bo (fun _ h => bg (fun h => ?_) h) h
       repeat' split at h
       all_goals first
        | exact h.elim
        | exact bo (fun _ h => bo (fun _ h => r0 h) h) h)
end

/-- The last of the first n writers that are listed. -/
def lw {α : Type} (W : Nat → Nat → Option α) (L : Nat → Bool) (h0 : Nat → Option α) : Nat → Nat → Option α
  | 0, b => h0 b
  | n + 1, b => (if L n then W n b else none).or (lw W L h0 n b)

section
variable {α : Type} {W : Nat → Nat → Option α} {L M : Nat → Bool} {h0 : Nat → Option α}
theorem lw_drop {i b : Nat} : ∀ {n : Nat}, i ≤ n → (∀ j, i ≤ j → j < n → L j = true → W j b = none) → lw W L h0 n b = lw W L h0 i b
  | 0, hi, _ => by rw [Nat.le_zero.1 hi]
  | n + 1, hi, h => by
    rcases Nat.lt_or_ge n i with hn | hn
    · rw [show i = n + 1 from by omega]
    · simp only [lw]
      rw [lw_drop hn (fun j h1 h2 => h j h1 (by omega))]
      by_cases hL : L n = true
      · simp [hL, h n hn (by omega) hL]
      · simp [hL]
theorem lw_congr {b : Nat} : ∀ {n : Nat}, (∀ j, j < n → W j b ≠ none → L j = M j) → lw W L h0 n b = lw W M h0 n b
  | 0, _ => rfl
  | n + 1, h => by
    simp only [lw]
    rw [lw_congr (fun j hj => h j (by omega))]
    by_cases hw : W n b = none
    · simp [hw]
    · rw [h n (by omega) hw]
theorem lw_add {i n b : Nat} (hi : i < n) (hLi : L i = false) (hM : ∀ j, M j = if j = i then true else L j) (h : W i b ≠ none → ∀ j, i < j → j < n → L j = true → W j b = none) :
    lw W M h0 n b = (W i b).or (lw W L h0 n b) := by
  induction n with
  | zero => omega
  | succ n ih =>
    simp only [lw]
    by_cases hn : i = n
    · subst hn
      rw [hM i, hLi]
      simp only [if_true, Bool.false_eq_true, if_false, Option.none_or]
      rw [lw_congr (L := M) (M := L) (fun j hj _ => by rw [hM j, if_neg (Nat.ne_of_lt hj)])]
    · have hMn : M n = L n := by rw [hM n, if_neg (fun e => hn e.symm)]
      rw [ih (by omega) (fun hw j h1 h2 => h hw j h1 (by omega)), hMn]
      by_cases hw : W i b = none
      · simp [hw]
      · by_cases hL : L n = true
        · simp [hL, h hw n (by omega) (by omega) hL]
        · simp [hL]
theorem lw_isSome {n b : Nat} (h : lw W L h0 n b ≠ none) : h0 b ≠ none ∨ ∃ j, j < n ∧ L j = true ∧ W j b ≠ none := by
  induction n with
  | zero => exact .inl h
  | succ n ih =>
    simp only [lw] at h
    by_cases hL : L n = true
    · by_cases hw : W n b = none
      · simp only [hL, hw, if_true, Option.none_or] at h
        rcases ih h with h | ⟨j, h1, h2⟩
        · exact .inl h
        · exact .inr ⟨j, by omega, h2⟩
      · exact .inr ⟨n, by omega, hL, hw⟩
    · simp only [hL, Bool.false_eq_true, if_false, Option.none_or] at h
      rcases ih h with h | ⟨j, h1, h2⟩
      · exact .inl h
      · exact .inr ⟨j, by omega, h2⟩
end
end Go.Sx
end
section
namespace Go.Sx
open Go

section
variable {C : Ctx} {Pre : Nat → List D → Prop} {call : FuncId → List AV → Base → Nat → X Eff} {base : Base}

/-- What is asked of the calls. -/
structure CallsOk (C : Ctx) (Pre : Nat → List D → Prop) (call : FuncId → List AV → Base → Nat → X Eff) : Prop where
  ok : ∀ hl nx f args eff ρ w us, (call f args hl nx).Ev C Pre eff → Hp C hl ρ w → (∀ b, nx ≤ b → b < eff.nx → hl b = none) → VRs C ρ (Own C hl ρ) w args us →
    (∃ fn, C.P.funcs[f]? = some fn ∧ (fn.name == "runtime.NumGoroutine") = false ∧ fn.body.isNone = false) ∧
    Calls C.P f us.toArray w (fun e w' => CallR C hl ρ eff e w w')
  ws : ∀ hl nx f args eff, (call f args hl nx).Ev C Pre eff → WsOk hl nx eff
  pure : ∀ hl hl' nx f args eff, (call f args hl nx).Ev C Pre eff → (∀ b ∈ eff.rd, ∀ y, hl b = some y → hl' b = some y) → (call f args hl' nx).Ev C Pre eff

theorem settle_ev {gd : List Tmp} {dst : Option Tmp} {e e' : Eff} (h : (settle gd dst e).Ev C Pre e') : e'.ws = e.ws ∧ e'.nx = e.nx ∧ e'.rd = e.rd ∧ ∀ ρ O w u, VR C ρ O w e.v u → VR C ρ O w e'.v u := by
  unfold settle at h
  split at h
  · rw [X.ev_ret h]; exact ⟨rfl, rfl, rfl, fun _ _ _ _ h => h⟩
  · rename_i t _ hv
    split at h
    · split at h
      · obtain ⟨r, h1, h⟩ := X.ev_bind h
        rw [X.ev_ret h]
        refine ⟨rfl, rfl, rfl, fun ρ O w u hu => ?_⟩
        rw [hv] at hu
        simp only [VR, litB, T.eval, D.toBool] at hu ⊢
        rw [hu, X.ev_test h1]; rfl
      · rw [X.ev_ret h]; exact ⟨rfl, rfl, rfl, fun _ _ _ _ h => h⟩
    · rw [X.ev_ret h]; exact ⟨rfl, rfl, rfl, fun _ _ _ _ h => h⟩
  · rw [X.ev_ret h]; exact ⟨rfl, rfl, rfl, fun _ _ _ _ h => h⟩
theorem opEvalS_wsOk {G : Nat → Option (List Value)} {P : PV} {call : FuncId → List AV → X Eff} {tl : Nat → AV} {hl : Base} {nx : Nat} {gd : List Tmp} {o : Oper} {eff : Eff}
    (hcall : ∀ f args e, (call f args).Ev C Pre e → WsOk hl nx e) (h : (opEvalS P G call tl hl nx gd o).Ev C Pre eff) : WsOk hl nx eff := by
  obtain ⟨e0, h1, h2⟩ := X.ev_bind h
  obtain ⟨s1, s2, s3, _⟩ := settle_ev h2
  have := opEval_wsOk hcall h1
  exact ⟨by rw [s2]; exact this.1, by rw [s1, s2]; exact this.2⟩
theorem opEvalS_sound (hc : CtxOk C) {tl : Nat → AV} {hl : Base} {ρ : Nat → Option Nat} {nt nx : Nat} {a : Act} {w : World} {call : FuncId → List AV → X Eff} {gd : List Tmp} {o : Oper} {eff : Eff} (hT : TmR C tl hl ρ nt a w) (hH : Hp C hl ρ w)
    (hcall : CallOk C Pre call hl nx ρ w) (hfresh : ∀ b, nx ≤ b → b < eff.nx → hl b = none)
    (h : (opEvalS C.P C.G call tl hl nx gd o).Ev C Pre eff) : Sound1 C hl ρ o eff a w := by
  obtain ⟨e0, h1, h2⟩ := X.ev_bind h
  obtain ⟨s1, s2, s3, s4⟩ := settle_ev h2
  have := opEval_sound hc hT hH hcall (by rw [← s2]; exact hfresh) h1
  intro K Q hK
  refine this K Q (fun u w' ρ' q1 q2 q3 => ?_)
  rw [← s1] at q1 q2 q3
  exact hK u w' ρ' q1 q2 (s4 _ _ _ _ q3)

/-- One operation of a region as the executor ran it, in the state before it. -/
def OpAt (C : Ctx) (Pre : Nat → List D → Prop) (call : FuncId → List AV → Base → Nat → X Eff) (ops : Array Oper) (tl : Nat → AV) (hl : Base) (nx : Nat) (o : Oper) (e : Eff) : Prop :=
  match o.guard with
  | none => (opEvalS C.P C.G (fun f args => call f args hl nx) tl hl nx (guardDsts ops) o).Ev C Pre e
  | some (j, want) => ∃ d, (ops[j]?).bind (·.dst) = some d ∧
      ((∃ t, tl d = .bool t ∧ (t.eval C.F C.η).toBool = want ∧ (opEvalS C.P C.G (fun f args => call f args hl nx) tl hl nx (guardDsts ops) o).Ev C Pre e) ∨
       (((∃ t, tl d = .bool t ∧ (t.eval C.F C.η).toBool ≠ want) ∨ ∃ l, tl d = .tup l) ∧ e = ⟨.tup [], [], nx, []⟩))

/-- The run of a region, taken apart. -/
theorem opsRun_cons {ops : Array Oper} {o : Oper} {rest : List Oper} {S S' : St} {effs : List Eff} (h : (opsRun C.P C.G call base ops (o :: rest) S).Ev C Pre (S', effs)) :
    ∃ e l, effs = e :: l ∧ OpAt C Pre call ops S.tl (S.hl base) S.nx o e ∧ (∀ d, o.dst = some d → d < S.tm.length) ∧ (opsRun C.P C.G call base ops rest (S.put o.dst e)).Ev C Pre (S', l) := by
  have go : ∀ {p : St × List Eff}, (((opEvalS C.P C.G (fun f args => call f args (S.hl base) S.nx) S.tl (S.hl base) S.nx (guardDsts ops) o).bind fun e =>
      (X.guard (match o.dst with | some d => decide (d < S.tm.length) | none => true) "dst").bind fun _ =>
      (opsRun C.P C.G call base ops rest (S.put o.dst e)).bind fun (S', l) => X.ret (S', e :: l))).Ev C Pre p →
      ∃ e l, p.2 = e :: l ∧ (opEvalS C.P C.G (fun f args => call f args (S.hl base) S.nx) S.tl (S.hl base) S.nx (guardDsts ops) o).Ev C Pre e ∧ (∀ d, o.dst = some d → d < S.tm.length) ∧ (opsRun C.P C.G call base ops rest (S.put o.dst e)).Ev C Pre (p.1, l) := by
    intro p h
    obtain ⟨e, h1, h⟩ := X.ev_bind h
    obtain ⟨hd, h⟩ := X.ev_bguard h
    obtain ⟨⟨S2, l⟩, h2, h⟩ := X.ev_bind h
    have := X.ev_ret h
    subst this
    refine ⟨e, l, rfl, h1, fun d hd' => ?_, h2⟩
    rw [hd'] at hd; simpa using hd
  unfold opsRun at h
  cases hg : o.guard with
  | none =>
    simp only [hg] at h
    obtain ⟨e, l, h1, h2, h3, h4⟩ := go h
    exact ⟨e, l, h1, by unfold OpAt; simp only [hg]; exact h2, h3, h4⟩
  | some jw =>
    obtain ⟨j, want⟩ := jw
    simp only [hg] at h
    cases hd : (ops[j]?).bind (·.dst) with
    | none => simp only [hd, Option.map_none] at h; exact (show False from h).elim
    | some d =>
      simp only [hd, Option.map_some] at h
      cases ht : S.tl d <;> simp only [ht] at h <;> try (exact (show False from h).elim)
      case tup l0 =>
        obtain ⟨hd', h⟩ := X.ev_bguard h
        obtain ⟨⟨S2, l⟩, h2, h⟩ := X.ev_bind h
        have := X.ev_ret h
        cases this
        refine ⟨_, l, rfl, by unfold OpAt; simp only [hg]; exact ⟨d, hd, .inr ⟨.inr ⟨l0, ht⟩, trivial⟩⟩, fun d' hd2 => ?_, h2⟩
        rw [hd2] at hd'; simpa using hd'
      rename_i t
      obtain ⟨r, h1, h⟩ := X.ev_bind h
      have hr := X.ev_test h1
      split at h
      · rename_i hw
        obtain ⟨e, l, h1, h2, h3, h4⟩ := go h
        exact ⟨e, l, h1, by unfold OpAt; simp only [hg]; exact ⟨d, hd, .inl ⟨t, ht, by rw [← hr]; exact hw, h2⟩⟩, h3, h4⟩
      · rename_i hw
        obtain ⟨hd', h⟩ := X.ev_bguard h
        obtain ⟨⟨S2, l⟩, h2, h⟩ := X.ev_bind h
        have := X.ev_ret h
        cases this
        refine ⟨_, l, rfl, by unfold OpAt; simp only [hg]; exact ⟨d, hd, .inr ⟨.inl ⟨t, ht, by rw [← hr]; exact hw⟩, trivial⟩⟩, fun d' hd2 => ?_, h2⟩
        rw [hd2] at hd'; simpa using hd'

theorem OpAt.wsOk (hcs : CallsOk C Pre call) {ops : Array Oper} {tl : Nat → AV} {hl : Base} {nx : Nat} {o : Oper} {e : Eff} (h : OpAt C Pre call ops tl hl nx o e) : WsOk hl nx e := by
  unfold OpAt at h
  split at h
  · exact opEvalS_wsOk (fun f args e he => hcs.ws _ _ _ _ _ he) h
  · obtain ⟨d, _, ⟨_, _, _, h⟩ | ⟨_, rfl⟩⟩ := h
    · exact opEvalS_wsOk (fun f args e he => hcs.ws _ _ _ _ _ he) h
    · exact wsOk_nil _ _

theorem TmR.mono {tl : Nat → AV} {hl hl' : Base} {ρ ρ' : Nat → Option Nat} {nt : Nat} {a : Act} {w w' : World} (h : TmR C tl hl ρ nt a w) (hA : Adv C hl ρ w hl' ρ' w') : TmR C tl hl' ρ' nt a w' :=
  ⟨h.defers, h.size, fun t => (h.tm t).imp id fun ⟨u, h1, h2⟩ => ⟨u, h1, hA.vr h2⟩⟩
theorem TmR.put {tl : Nat → AV} {hl : Base} {ρ : Nat → Option Nat} {nt : Nat} {a : Act} {w : World} (h : TmR C tl hl ρ nt a w) {dst : Option Tmp} {v : AV} {u : Value} (hd : ∀ d, dst = some d → d < nt)
    (hv : VR C ρ (Own C hl ρ) w v u) : TmR C (setTl tl dst v) hl ρ nt (a.put dst u) w := by
  cases dst with
  | none =>
    have : setTl tl none v = tl := by funext t; simp [setTl]
    rw [this]; exact h
  | some d =>
    refine ⟨h.defers, by simpa [Act.put] using h.size, fun t => ?_⟩
    by_cases e : d = t
    · subst e
      refine .inr ⟨u, ?_, by simpa [setTl] using hv⟩
      have := hd d rfl
      have hs := h.size
      simp [Act.put, hs, this]
    · simp only [setTl, Option.some.injEq, if_neg e]
      rcases h.tm t with h' | ⟨u', h1, h2⟩
      · exact .inl h'
      · exact .inr ⟨u', by simpa [Act.put, Array.getElem?_setIfInBounds_ne e] using h1, h2⟩

theorem wanted_of {tl : Nat → AV} {hl : Base} {ρ : Nat → Option Nat} {nt : Nat} {a : Act} {w : World} (hT : TmR C tl hl ρ nt a w) {ops : Array Oper} {o : Oper} {j : Nat} {want : Bool} {d : Tmp} {t : T}
    (hg : o.guard = some (j, want)) (hd : (ops[j]?).bind (·.dst) = some d) (ht : tl d = .bool t) : Region.wanted o (yielded ops a.tmps) = ((t.eval C.F C.η).toBool == want) := by
  have hv : a.tmps[d]? = some (.bool (t.eval C.F C.η).toBool) := by
    rcases hT.tm d with h | ⟨u, h1, h2⟩
    · rw [ht] at h; cases h
    · rw [ht] at h2; rw [h1, VR.bool_inv h2]
  simp only [Region.wanted, hg, yielded, hd, Option.bind_some, hv]
  generalize (t.eval C.F C.η).toBool = r
  cases r <;> cases want <;> rfl

theorem wanted_tup {tl : Nat → AV} {hl : Base} {ρ : Nat → Option Nat} {nt : Nat} {a : Act} {w : World} (hT : TmR C tl hl ρ nt a w) {ops : Array Oper} {o : Oper} {j : Nat} {want : Bool} {d : Tmp} {l : List AV}
    (hg : o.guard = some (j, want)) (hd : (ops[j]?).bind (·.dst) = some d) (ht : tl d = .tup l) : Region.wanted o (yielded ops a.tmps) = false := by
  have hv : ∃ x, a.tmps[d]? = some (.tuple x) := by
    rcases hT.tm d with h | ⟨u, h1, h2⟩
    · rw [ht] at h; cases h
    · rw [ht] at h2
      simp only [VR] at h2
      obtain ⟨x, rfl, _⟩ := h2
      exact ⟨x, h1⟩
  obtain ⟨x, hv⟩ := hv
  simp only [Region.wanted, hg, yielded, hd, Option.bind_some, hv]
  rfl

/-- One operation: carried out where it is wanted. -/
theorem opAt_wpOp (hc : CtxOk C) (hcs : CallsOk C Pre call) {ops : Array Oper} {tl : Nat → AV} {hl : Base} {ρ : Nat → Option Nat} {nt nx i : Nat} {a : Act} {w : World} {o : Oper} {e : Eff} (hi : ops[i]? = some o)
    (hT : TmR C tl hl ρ nt a w) (hH : Hp C hl ρ w) (hf : ∀ b, nx ≤ b → b < e.nx → hl b = none) (hd : ∀ d, o.dst = some d → d < nt) (h : OpAt C Pre call ops tl hl nx o e)
    (K : Act → World → Prop) (Q : Exit → Act → World → Prop)
    (hK : ∀ a' w' ρ', TmR C (setTl tl o.dst e.v) (over hl e.ws) ρ' nt a' w' → Hp C (over hl e.ws) ρ' w' → Adv C hl ρ w (over hl e.ws) ρ' w' → K a' w') : wpOp C.P ops Q i K a w := by
  have run : (opEvalS C.P C.G (fun f args => call f args hl nx) tl hl nx (guardDsts ops) o).Ev C Pre e → o.wp C.P a w K Q := fun h =>
    opEvalS_sound hc hT hH (fun f args eff us he hf' hv => hcs.ok hl nx f args eff ρ w us he hH hf' hv) hf h K Q
      (fun u w' ρ' h1 h2 h3 => hK _ w' ρ' ((hT.mono h2).put hd h3) h1 h2)
  unfold wpOp
  simp only [hi]
  unfold OpAt at h
  cases hg : o.guard with
  | none =>
    simp only [hg] at h
    rw [if_pos (by simp [Region.wanted, hg])]
    exact .inl (run h)
  | some jw =>
    obtain ⟨j, want⟩ := jw
    simp only [hg] at h
    obtain ⟨d, h1, ⟨t, h2, h3, h4⟩ | ⟨h3, rfl⟩⟩ := h
    · rw [wanted_of hT hg h1 h2, if_pos (by simp [h3])]
      exact .inl (run h4)
    · have hw : Region.wanted o (yielded ops a.tmps) = false := by
        rcases h3 with ⟨t, h2, h3⟩ | ⟨l, h2⟩
        · rw [wanted_of hT hg h1 h2]; simpa using h3
        · exact wanted_tup hT hg h1 h2
      rw [hw, if_neg (by simp)]
      refine hK _ w ρ ?_ (by rw [over_nil]; exact hH) (by rw [over_nil]; exact Adv.refl _ _ _ _)
      rw [over_nil]
      exact hT.put hd (by simp only [VR]; exact ⟨#[], rfl, by simp [VRs]⟩)
end
end Go.Sx
end
section
namespace Go.Sx
open Go

theorem testBit_fold (g : Nat → Nat) (j : Nat) : ∀ (ks : List Nat) (m : Nat), (ks.foldl (fun m k => m ||| 2 ^ k ||| g k) m).testBit j = true ↔ m.testBit j = true ∨ ∃ k, k ∈ ks ∧ (k = j ∨ (g k).testBit j = true)
  | [], m => by simp
  | k :: ks, m => by
    rw [List.foldl_cons, testBit_fold g j ks]
    simp only [Nat.testBit_or, Bool.or_eq_true, Nat.testBit_two_pow, decide_eq_true_eq, List.mem_cons]
    constructor
    · rintro (((h | h) | h) | ⟨k', h1, h2⟩)
      · exact .inl h
      · exact .inr ⟨k, .inl rfl, .inl h⟩
      · exact .inr ⟨k, .inl rfl, .inr h⟩
      · exact .inr ⟨k', .inr h1, h2⟩
    · rintro (h | ⟨k', h1 | h1, h2⟩)
      · exact .inl (.inl (.inl h))
      · subst h1
        rcases h2 with h2 | h2
        · exact .inl (.inl (.inr h2))
        · exact .inl (.inr h2)
      · exact .inr ⟨k', h1, h2⟩

theorem fold_congr {g g' : Nat → Nat} : ∀ (ks : List Nat) (m : Nat), (∀ k ∈ ks, g k = g' k) → ks.foldl (fun m k => m ||| 2 ^ k ||| g k) m = ks.foldl (fun m k => m ||| 2 ^ k ||| g' k) m
  | [], _, _ => rfl
  | k :: ks, m, h => by
    rw [List.foldl_cons, List.foldl_cons, h k List.mem_cons_self]
    exact fold_congr ks _ fun x hx => h x (List.mem_cons_of_mem _ hx)

theorem closure_spec : ∀ (l : List Oper) (acc : List Nat), (∀ (i : Nat) (o : Oper), l[i]? = some o → ∀ k ∈ predsOf o, k < acc.length + i) →
    (∀ k, k < acc.length → (closure l acc).getD k 0 = acc.getD k 0) ∧
    ∀ (i : Nat) (o : Oper), l[i]? = some o → (closure l acc).getD (acc.length + i) 0 = (predsOf o).foldl (fun m k => m ||| 2 ^ k ||| (closure l acc).getD k 0) 0
  | [], acc, _ => ⟨fun k _ => rfl, fun i o h => by simp at h⟩
  | o :: l, acc, h => by
    let x := (predsOf o).foldl (fun m k => m ||| 2 ^ k ||| acc.getD k 0) 0
    have hlen : (acc ++ [x]).length = acc.length + 1 := by simp
    obtain ⟨h1, h2⟩ := closure_spec l (acc ++ [x]) (fun i o' hi k hk => by
      have := h (i + 1) o' (by simpa using hi) k hk
      rw [hlen]; omega)
    have hold : ∀ k, k < acc.length → (closure (o :: l) acc).getD k 0 = acc.getD k 0 := by
      intro k hk
      show (closure l (acc ++ [x])).getD k 0 = _
      rw [h1 k (by rw [hlen]; omega)]
      simp [List.getD_eq_getElem?_getD, List.getElem?_append_left hk]
    refine ⟨hold, fun i o' hi => ?_⟩
    cases i with
    | zero =>
      simp only [List.getElem?_cons_zero, Option.some.injEq] at hi
      subst hi
      show (closure l (acc ++ [x])).getD (acc.length + 0) 0 = _
      rw [h1 _ (by rw [hlen]; omega)]
      have : (acc ++ [x]).getD (acc.length + 0) 0 = x := by simp [List.getD_eq_getElem?_getD]
      rw [this]
      exact fold_congr _ _ fun k hk => (hold k (by have := h 0 o rfl k hk; omega)).symm
    | succ i =>
      have := h2 i o' (by simpa using hi)
      rw [hlen] at this
      rw [show acc.length + (i + 1) = acc.length + 1 + i from by omega]
      exact this

/-- j comes before i in every order. -/
def Bf (l : List Oper) (i j : Nat) : Prop := ((closure l []).getD i 0).testBit j = true

section
variable {l : List Oper} (hp : ∀ (i : Nat) (o : Oper), l[i]? = some o → ∀ k ∈ predsOf o, k < i)
include hp

theorem Bf.spec {i j : Nat} {o : Oper} (hi : l[i]? = some o) : Bf l i j ↔ ∃ k, k ∈ predsOf o ∧ (k = j ∨ Bf l k j) := by
  have := (closure_spec l [] (fun i o h k hk => by have := hp i o h k hk; simpa using this)).2 i o hi
  simp only [List.length_nil, Nat.zero_add] at this
  unfold Bf
  rw [this, testBit_fold]
  simp

theorem Bf.listed {L : Nat → Bool} (hL : ∀ i o, l[i]? = some o → L i = true → ∀ k ∈ predsOf o, L k = true) : ∀ (i : Nat) (o : Oper) (j : Nat), l[i]? = some o → (∀ k ∈ predsOf o, L k = true) → Bf l i j → L j = true := by
  intro i
  induction i using Nat.strongRecOn with
  | _ i ih =>
    intro o j hi hall hb
    obtain ⟨k, hk, rfl | hb'⟩ := (Bf.spec hp hi).1 hb
    · exact hall _ hk
    · have hki := hp i o hi k hk
      have hlt : i < l.length := by
        rcases Nat.lt_or_ge i l.length with h | h
        · exact h
        · rw [List.getElem?_eq_none h] at hi; cases hi
      have hko : l[k]? = some l[k] := List.getElem?_eq_getElem (by omega)
      exact ih k hki _ j hko (fun m hm => hL k _ hko (hall k hk) m hm) hb'

theorem Bf.lt : ∀ (i : Nat) (o : Oper) (j : Nat), l[i]? = some o → Bf l i j → j < i := by
  intro i
  induction i using Nat.strongRecOn with
  | _ i ih =>
    intro o j hi hb
    obtain ⟨k, hk, rfl | hb'⟩ := (Bf.spec hp hi).1 hb
    · exact hp i o hi _ hk
    · have hki := hp i o hi k hk
      have hlt : i < l.length := by
        rcases Nat.lt_or_ge i l.length with h | h
        · exact h
        · rw [List.getElem?_eq_none h] at hi; cases hi
      have := ih k hki l[k] j (List.getElem?_eq_getElem (by omega)) hb'
      omega
end

/-! ### The states of a region's run -/
def sAt : St → List (Oper × Eff) → Nat → St
  | S, _, 0 => S
  | S, [], _ + 1 => S
  | S, (o, e) :: l, i + 1 => sAt (S.put o.dst e) l i

theorem sAt_succ : ∀ {S : St} {l : List (Oper × Eff)} {i : Nat} {o : Oper} {e : Eff}, l[i]? = some (o, e) → sAt S l (i + 1) = (sAt S l i).put o.dst e
  | S, p :: l, 0, o, e, h => by
    simp only [List.getElem?_cons_zero, Option.some.injEq] at h
    subst h; cases l <;> rfl
  | S, p :: l, i + 1, o, e, h => by
    simp only [List.getElem?_cons_succ] at h
    obtain ⟨o', e'⟩ := p
    show sAt (S.put o'.dst e') l (i + 1) = (sAt (S.put o'.dst e') l i).put o.dst e
    exact sAt_succ h
  | S, [], i, o, e, h => by simp at h

def Wt (le : List (Oper × Eff)) (j t : Nat) : Option AV := (le[j]?).bind fun p => if p.1.dst = some t then some p.2.v else none
def Wh (le : List (Oper × Eff)) (j b : Nat) : Option Blk := (le[j]?).bind fun p => p.2.ws.lookup b

section
variable {C : Ctx} {Pre : Nat → List D → Prop} {call : FuncId → List AV → Base → Nat → X Eff} {base : Base}

theorem opsRun_canon {ops : Array Oper} : ∀ {l : List Oper} {S S' : St} {effs : List Eff}, (opsRun C.P C.G call base ops l S).Ev C Pre (S', effs) →
    effs.length = l.length ∧ S' = sAt S (l.zip effs) l.length ∧ ∀ i o e, (l.zip effs)[i]? = some (o, e) →
      OpAt C Pre call ops (sAt S (l.zip effs) i).tl ((sAt S (l.zip effs) i).hl base) (sAt S (l.zip effs) i).nx o e ∧ (∀ d, o.dst = some d → d < S.tm.length)
  | [], S, S', effs, h => by
    have := X.ev_ret h
    cases this
    exact ⟨rfl, rfl, fun i o e h => by simp at h⟩
  | o :: l, S, S', effs, h => by
    obtain ⟨e, effs', rfl, h1, h2, h3⟩ := opsRun_cons h
    obtain ⟨g1, g2, g3⟩ := opsRun_canon h3
    refine ⟨by simp [g1], g2, fun i o' e' hi => ?_⟩
    cases i with
    | zero =>
      simp only [List.zip_cons_cons, List.getElem?_cons_zero, Option.some.injEq, Prod.mk.injEq] at hi
      obtain ⟨rfl, rfl⟩ := hi
      exact ⟨h1, h2⟩
    | succ i =>
      simp only [List.zip_cons_cons, List.getElem?_cons_succ] at hi
      obtain ⟨k1, k2⟩ := g3 i o' e' hi
      exact ⟨k1, fun d hd => by have := k2 d hd; rwa [St.put_len] at this⟩

theorem sAt_len {le : List (Oper × Eff)} : ∀ {S : St} (i : Nat), (sAt S le i).tm.length = S.tm.length := by
  induction le with
  | nil => intro S i; cases i <;> rfl
  | cons p le ih =>
    intro S i
    obtain ⟨o, e⟩ := p
    cases i with
    | zero => rfl
    | succ i => show (sAt (S.put o.dst e) le i).tm.length = _; rw [ih, St.put_len]

theorem sAt_tl {le : List (Oper × Eff)} {S : St} (hd : ∀ (i : Nat) (o : Oper) (e : Eff), le[i]? = some (o, e) → ∀ d, o.dst = some d → d < S.tm.length) : ∀ (i : Nat), i ≤ le.length → ∀ t,
    (sAt S le i).tl t = (lw (Wt le) (fun _ => true) (fun t => some (S.tl t)) i t).getD .bad
  | 0, _, t => by cases le <;> rfl
  | i + 1, hi, t => by
    have hlt : i < le.length := by omega
    have hg : le[i]? = some (le[i].1, le[i].2) := List.getElem?_eq_getElem hlt
    rw [sAt_succ hg, St.put_tl _ _ _ (fun d h => by rw [sAt_len]; exact hd i _ _ hg d h)]
    simp only [lw, setTl, if_true, Wt, hg, Option.bind_some]
    by_cases e : le[i].1.dst = some t
    · simp [e]
    · simp only [e, if_false, Option.none_or]; exact sAt_tl hd i (by omega) t
theorem sAt_hl {le : List (Oper × Eff)} {S : St} : ∀ (i : Nat), i ≤ le.length → ∀ b, (sAt S le i).hl base b = lw (Wh le) (fun _ => true) (S.hl base) i b
  | 0, _, b => by cases le <;> rfl
  | i + 1, hi, b => by
    have hlt : i < le.length := by omega
    have hg : le[i]? = some (le[i].1, le[i].2) := List.getElem?_eq_getElem hlt
    rw [sAt_succ hg, St.put_hl]
    simp only [lw, over, if_true, Wh, hg, Option.bind_some]
    rw [sAt_hl i (by omega) b]

theorem sAt_nx {le : List (Oper × Eff)} {S : St} {i : Nat} {o : Oper} {e : Eff} (h : le[i]? = some (o, e)) : (sAt S le (i + 1)).nx = e.nx := by
  rw [sAt_succ h]; rfl
end
end Go.Sx
end
section
namespace Go.Sx
open Go

section
variable {C : Ctx} {Pre : Nat → List D → Prop}

theorem mem_operands_of {α : Type} {x : α} {l : List α} (h : x ∈ l) : x ∈ l.toArray := by simpa using h

/-- The same operands and the same blocks behind the addresses: the same effect. -/
theorem opEval_congr {P : PV} {G : Nat → Option (List Value)} {call call' : FuncId → List AV → X Eff} {tl tl' : Nat → AV} {hl hl' : Nat → Option Blk} {nx : Nat} {o : Oper} {e : Eff}
    (hx : ∀ x ∈ o.op.operands, ev tl' x = ev tl x) (hb : ∀ b ∈ e.rd, ∀ y, hl b = some y → hl' b = some y)
    (hcall : ∀ f args, (call f args).Ev C Pre e → (call' f args).Ev C Pre e)
    (h : (opEval P G call tl hl nx o).Ev C Pre e) : (opEval P G call' tl' hl' nx o).Ev C Pre e := by
  obtain ⟨dst, op, type, pos, after, guard⟩ := o
  simp only at hx
  have hop : ∀ l : List Operand, (∀ x ∈ l, x ∈ op.operands) → (∀ x ∈ l, ev tl' x = ev tl x) := fun l hl x hxl => hx x (hl x hxl)
  have hguard : (op.operands.toList.all fun x => !(ev tl' x).isBad) = (op.operands.toList.all fun x => !(ev tl x).isBad) := by
    have : ∀ l : List Operand, (∀ x ∈ l, ev tl' x = ev tl x) → (l.all fun x => !(ev tl' x).isBad) = (l.all fun x => !(ev tl x).isBad) := by
      intro l hl
      induction l with
      | nil => rfl
      | cons x l ih => simp only [List.all_cons, hl x List.mem_cons_self, ih fun y hy => hl y (List.mem_cons_of_mem _ hy)]
    exact this _ fun x hx' => hx x (by simpa using hx')
  unfold opEval at h ⊢
  simp only at h ⊢
  rw [hguard]
  replace h := X.ev_bguard h
  obtain ⟨hgd, h⟩ := h
  simp only [hgd, X.guard, if_true, X.bind]
  clear hguard
  cases op <;> simp only [Op.operands] at hx <;> (try simp only at h ⊢) <;> try (exact h)
  case move x => rw [hx x (by simp)]; exact h
  case assign x => rw [hx x (by simp)]; exact h
  case pick c x y => rw [hx c (by simp), hx x (by simp), hx y (by simp)]; exact h
  case box t x => rw [hx x (by simp)]; exact h
  case build t parts =>
    have : (parts.toList.map fun p => (p.1, ev tl' p.2)) = parts.toList.map fun p => (p.1, ev tl p.2) :=
      List.map_congr_left fun p hp => by rw [hx p.2 (by simp; exact ⟨p.1, by simpa using hp⟩)]
    rw [this]; exact h
  case buildSlice t n parts =>
    have : (parts.toList.map fun p => (p.1, ev tl' p.2)) = parts.toList.map fun p => (p.1, ev tl p.2) :=
      List.map_congr_left fun p hp => by rw [hx p.2 (by simp; exact ⟨p.1, by simpa using hp⟩)]
    rw [this]; exact h
  case load t x =>
    rw [hx x (by simp)]
    obtain ⟨v, hv, h⟩ := X.ev_bopt h
    have he := X.ev_ret h
    have : loadA P G hl' t (ev tl x) = some v := by
      cases hxe : ev tl x <;> simp only [hxe, loadA, reduceCtorEq] at hv ⊢ <;> try exact hv
      rename_i b p
      cases hbl : hl b with
      | none => simp [hbl] at hv
      | some y =>
        rw [hb b (by rw [he]; simp [hxe]) y hbl]
        rw [hbl] at hv; exact hv
    rw [this]
    exact h
  case store t x y =>
    rw [hx x (by simp), hx y (by simp)]
    cases hxe : ev tl x <;> simp only [hxe] at h ⊢ <;> try exact h
    rename_i b p
    cases hbl : hl b with
    | none => simp only [hbl] at h; exact (show False from h).elim
    | some z =>
      have hmem : b ∈ e.rd := by
        rw [hbl] at h
        cases z with
        | dead => exact (show False from h).elim
        | cells l el =>
          obtain ⟨s, _, h⟩ := X.ev_bopt h
          have h := (X.ev_bguard h).2
          rw [X.ev_ret h]; simp
      rw [hb b hmem z hbl]
      rw [hbl] at h; exact h
  case nilCheck x => rw [hx x (by simp)]; exact h
  case binOp bo t x y yt => rw [hx x (by simp), hx y (by simp)]; exact h
  case unOp uo t x => rw [hx x (by simp)]; exact h
  case convert s d x => rw [hx x (by simp)]; exact h
  case makeFunc fn fi ca =>
    have e1 : fi.toList.map (ev tl') = fi.toList.map (ev tl) := List.map_congr_left fun x hx' => hx x (by simp; exact .inl (by simpa using hx'))
    have e2 : ca.toList.map (ev tl') = ca.toList.map (ev tl) := List.map_congr_left fun x hx' => hx x (by simp; exact .inr (by simpa using hx'))
    rw [e1, e2]; exact h
  case makeSlice t n c => rw [hx n (by simp), hx c (by simp)]; exact h
  case fieldAddr t x f => rw [hx x (by simp)]; exact h
  case field t x f => rw [hx x (by simp)]; exact h
  case indexAddr t x i => rw [hx x (by simp), hx i (by simp)]; exact h
  case index t x i => rw [hx x (by simp), hx i (by simp)]; exact h
  case extract x i => rw [hx x (by simp)]; exact h
  case slice t x lo hi mx =>
    cases mx with
    | some m => exact h
    | none =>
      simp only at h ⊢
      rw [hx x (by simp)]
      cases lo with
      | none =>
        cases hi with
        | none => exact h
        | some z => simp only at h ⊢; rw [hx z (by simp)]; exact h
      | some y =>
        cases hi with
        | none => simp only at h ⊢; rw [hx y (by simp)]; exact h
        | some z => simp only at h ⊢; rw [hx y (by simp), hx z (by simp)]; exact h
  case call c =>
    have e1 : c.args.toList.map (ev tl') = c.args.toList.map (ev tl) := List.map_congr_left fun x hx' => hx x (by
      simp only [Call.operands]; simp; exact .inr (by simpa using hx'))
    rw [e1]
    cases hcl : c.callee with
    | builtin b => simp only [hcl] at h ⊢; exact h
    | invoke r m => simp only [hcl] at h; exact (show False from h).elim
    | value f =>
      simp only [hcl] at h ⊢
      rw [hx f (by simp [Call.operands, hcl])]
      cases hf : ev tl f <;> simp only [hf] at h ⊢ <;> try exact h
      rename_i fn a b
      cases fn <;> simp only at h ⊢ <;> try exact h
      rename_i fid
      cases hext : extOf P fid with
      | some b => rw [hext] at h; exact h
      | none => rw [hext] at h; exact hcall _ _ h
end
end Go.Sx
end
section
namespace Go.Sx
open Go

theorem lookup_mem {b : Nat} {x : Blk} : ∀ {l : Heap}, l.lookup b = some x → (b, x) ∈ l
  | [], h => by simp at h
  | (c, y) :: l, h => by
    by_cases ec : b = c
    · subst ec; simp at h; subst h; exact List.mem_cons_self
    · simp only [List.lookup, beq_false_of_ne ec] at h; exact List.mem_cons_of_mem _ (lookup_mem h)

/-- What orderOk says, as propositions. -/
structure OrdOk (ops : List Oper) (nx0 : Nat) (le : List (Oper × Eff)) (nx : Nat → Nat) : Prop where
  preds : ∀ (i : Nat) (o : Oper), ops[i]? = some o → ∀ k ∈ predsOf o, k < i
  dst : ∀ (i j : Nat) (o o' : Oper) (d : Tmp), ops[i]? = some o → ops[j]? = some o' → i ≠ j → o'.dst = some d →
    o.dst ≠ some d ∧ (d ∈ o.looksAt ops.toArray → Bf ops i j ∨ Bf ops j i)
  bar : ∀ (i : Nat) (o : Oper) (e : Eff), le[i]? = some (o, e) → ∀ b x, e.ws.lookup b = some x → (nx i ≤ b ∧ b < e.nx) ∨
    ∀ (j : Nat) (o' : Oper) (e' : Eff), le[j]? = some (o', e') → i ≠ j → b ∈ e'.rd ∨ e'.ws.lookup b ≠ none → if j < i then Bf ops i j else Bf ops j i
  rd : ∀ (i : Nat) (o : Oper) (e : Eff), le[i]? = some (o, e) → ∀ b ∈ e.rd, b < nx0 ∨ ∃ (j : Nat) (o' : Oper) (e' : Eff), le[j]? = some (o', e') ∧ nx j ≤ b ∧ b < e'.nx ∧ Bf ops i j

theorem nodupB_spec : ∀ {l : List Tmp} {m : Nat}, nodupB l m = true → l.Nodup ∧ ∀ d ∈ l, m.testBit d = false
  | [], _, _ => ⟨List.nodup_nil, fun _ h => by cases h⟩
  | d :: l, m, h => by
    simp only [nodupB, Bool.and_eq_true, Bool.not_eq_true'] at h
    obtain ⟨h1, h2⟩ := nodupB_spec h.2
    refine ⟨List.nodup_cons.2 ⟨fun hm => ?_, h1⟩, fun x hx => ?_⟩
    · have := h2 d hm
      simp [Nat.testBit_or, Nat.testBit_two_pow] at this
    · rcases List.mem_cons.1 hx with rfl | hx
      · exact h.1
      · have := h2 x hx
        simp only [Nat.testBit_or, Bool.or_eq_false_iff] at this
        exact this.1

theorem dstsOf_mem : ∀ {l : List Oper} {i : Nat} {d : Tmp} {j : Nat}, (d, j) ∈ dstsOf l i ↔ i ≤ j ∧ ∃ o, l[j - i]? = some o ∧ o.dst = some d
  | [], i, d, j => by simp [dstsOf]
  | o :: l, i, d, j => by
    have ih := dstsOf_mem (l := l) (i := i + 1) (d := d) (j := j)
    have hsplit : (i ≤ j ∧ ∃ o', (o :: l)[j - i]? = some o' ∧ o'.dst = some d) ↔ ((j = i ∧ o.dst = some d) ∨ (i + 1 ≤ j ∧ ∃ o', l[j - (i + 1)]? = some o' ∧ o'.dst = some d)) := by
      constructor
      · rintro ⟨h1, o', h2, h3⟩
        by_cases hj : j = i
        · subst hj
          simp only [Nat.sub_self, List.getElem?_cons_zero, Option.some.injEq] at h2
          subst h2; exact .inl ⟨rfl, h3⟩
        · rw [show j - i = j - (i + 1) + 1 from by omega, List.getElem?_cons_succ] at h2
          exact .inr ⟨by omega, o', h2, h3⟩
      · rintro (⟨rfl, h⟩ | ⟨h1, o', h2, h3⟩)
        · exact ⟨Nat.le_refl _, o, by simp, h⟩
        · exact ⟨by omega, o', by rw [show j - i = j - (i + 1) + 1 from by omega, List.getElem?_cons_succ]; exact h2, h3⟩
    rw [hsplit, ← ih]
    simp only [dstsOf]
    cases hd : o.dst with
    | none => simp
    | some d' =>
      simp only [List.mem_cons, Prod.mk.injEq, Option.some.injEq]
      constructor
      · rintro (⟨rfl, rfl⟩ | h)
        · exact .inl ⟨rfl, rfl⟩
        · exact .inr h
      · rintro (⟨rfl, rfl⟩ | h)
        · exact .inl ⟨rfl, rfl⟩
        · exact .inr h

theorem lookup_of_nodup {d : Tmp} {j : Nat} : ∀ {l : List (Tmp × Nat)}, (l.map (·.1)).Nodup → (d, j) ∈ l → l.lookup d = some j
  | (c, k) :: l, hn, hm => by
    simp only [List.map_cons, List.nodup_cons] at hn
    rcases List.mem_cons.1 hm with h | h
    · cases h; simp
    · have hne : d ≠ c := fun e => hn.1 (e ▸ List.mem_map.2 ⟨(d, j), h, rfl⟩)
      simp only [List.lookup, beq_false_of_ne hne]
      exact lookup_of_nodup hn.2 h
  | [], _, hm => by cases hm

theorem nodup_fst {d : Tmp} {j k : Nat} {l : List (Tmp × Nat)} (hn : (l.map (·.1)).Nodup) (h1 : (d, j) ∈ l) (h2 : (d, k) ∈ l) : j = k := by
  have a := lookup_of_nodup hn h1
  rw [lookup_of_nodup hn h2] at a
  exact (Option.some.inj a).symm

theorem depsOk_spec {ops : Array Oper} {cl : List Nat} {ds : List (Tmp × Nat)} : ∀ {l : List Oper} {ms : List Nat} {k : Nat}, depsOk ops cl ds l ms k = true → ∀ i o, l[i]? = some o → ∃ m, ms[i]? = some m ∧
    ∀ t ∈ depsOf ops o, ∀ j, ds.lookup t = some j → k + i = j ∨ m.testBit j = true ∨ (cl.getD j 0).testBit (k + i) = true
  | [], _, _, _, i, o, h => by simp at h
  | _ :: _, [], _, h, _, _, _ => by simp [depsOk] at h
  | o :: l, m :: ms, k, h, i, o', hi => by
    simp only [depsOk, Bool.and_eq_true, List.all_eq_true] at h
    cases i with
    | zero =>
      simp only [List.getElem?_cons_zero, Option.some.injEq] at hi
      subst hi
      refine ⟨m, rfl, fun t ht j hj => ?_⟩
      have := h.1 t ht
      simp only [hj, Bool.or_eq_true, beq_iff_eq] at this
      rcases this with (h | h) | h
      · exact .inl (by omega)
      · exact .inr (.inl h)
      · exact .inr (.inr h)
    | succ i =>
      simp only [List.getElem?_cons_succ] at hi ⊢
      obtain ⟨m', h1, h2⟩ := depsOk_spec h.2 i o' hi
      refine ⟨m', h1, fun t ht j hj => ?_⟩
      have := h2 t ht j hj
      rw [show k + (i + 1) = k + 1 + i from by omega]; exact this

theorem orderOk_spec {ops : Array Oper} {nx0 : Nat} {effs : List Eff} (h : orderOk ops nx0 effs = true) (hlen : effs.length = ops.toList.length) (nx : Nat → Nat)
    (hnx : ∀ i e, effs[i]? = some e → nx (i + 1) = e.nx) (hn0 : nx 0 = nx0) : OrdOk ops.toList nx0 (ops.toList.zip effs) nx := by
  unfold orderOk at h
  simp only [Bool.and_eq_true, List.all_eq_true] at h
  obtain ⟨⟨h1, h2⟩, h3⟩ := h
  have hz : ∀ (i : Nat) (o : Oper) (e : Eff), (ops.toList.zip effs)[i]? = some (o, e) → (effs.zip (nx0 :: effs.map (·.nx)))[i]? = some (e, nx i) := by
    intro i o e hze
    have he : effs[i]? = some e := by
      rw [List.getElem?_zip_eq_some] at hze; exact hze.2
    rw [List.getElem?_zip_eq_some]
    refine ⟨he, ?_⟩
    cases i with
    | zero => simp [hn0]
    | succ i =>
      have hlt : i < effs.length := by
        rcases Nat.lt_or_ge i effs.length with h | h
        · exact h
        · rw [List.getElem?_eq_none (by omega)] at he; cases he
      have hg : effs[i]? = some effs[i] := List.getElem?_eq_getElem hlt
      simp [hg, hnx i _ hg]
  refine ⟨fun i o hi k hk => ?_, fun i j o o' d hi hj hij hd => ?_, fun i o e hi => ?_, fun i o e hi b hb => ?_⟩
  · have := h1 (o, i) (List.mem_zipIdx_iff_getElem?.2 hi) k hk
    simpa using this
  · obtain ⟨hnd, hdep⟩ := h2
    have hn := (nodupB_spec hnd).1
    have hdj : (d, j) ∈ dstsOf ops.toList 0 := dstsOf_mem.2 ⟨Nat.zero_le _, o', by simpa using hj, hd⟩
    refine ⟨fun hdi => ?_, fun hm => ?_⟩
    · have hdi' : (d, i) ∈ dstsOf ops.toList 0 := dstsOf_mem.2 ⟨Nat.zero_le _, o, by simpa using hi, hdi⟩
      exact hij (nodup_fst hn hdi' hdj)
    · obtain ⟨m, hm1, hm2⟩ := depsOk_spec hdep i o hi
      have hm' : d ∈ depsOf ops o := by simpa [depsOf] using hm
      rcases hm2 d hm' j (lookup_of_nodup hn hdj) with h | h | h
      · exact absurd (by omega) hij
      · refine .inl ?_
        unfold Bf
        rw [List.getD_eq_getElem?_getD, hm1]; exact h
      · rw [Nat.zero_add] at h; exact .inr h
  · have := (h3 ((e, nx i), i) (List.mem_zipIdx_iff_getElem?.2 (hz i o e hi))).1
    intro b x hbx
    have := this (b, x) (lookup_mem hbx)
    simp only [Bool.or_eq_true, Bool.and_eq_true, decide_eq_true_eq, List.all_eq_true] at this
    rcases this with hb | hb
    · exact .inl hb
    · refine .inr fun j o' e' hj hij hrw => ?_
      have hje : effs[j]? = some e' := by rw [List.getElem?_zip_eq_some] at hj; exact hj.2
      have := hb (e', j) (List.mem_zipIdx_iff_getElem?.2 hje)
      simp only [hij, false_or] at this
      rcases this with hn | hbf
      · exfalso
        simp only [Bool.not_eq_true', Bool.or_eq_false_iff] at hn
        rcases hrw with h | h
        · have := hn.1; simp at this; exact this h
        · apply h
          cases hl : e'.ws.lookup b with
          | none => rfl
          | some z => have := hn.2; simp [hl] at this
      · split <;> rename_i hlt
        · simpa [hlt, Bf] using hbf
        · simpa [hlt, Bf] using hbf
  · have := (h3 ((e, nx i), i) (List.mem_zipIdx_iff_getElem?.2 (hz i o e hi))).2
    have := this b hb
    simp only [Bool.or_eq_true, decide_eq_true_eq, List.any_eq_true, Bool.and_eq_true] at this
    rcases this with h | ⟨⟨⟨e', s'⟩, j⟩, hm, ⟨h1, h2⟩, h3'⟩
    · exact .inl h
    · have hj := List.mem_zipIdx_iff_getElem?.1 hm
      simp only at hj h1 h2 h3'
      have hje : effs[j]? = some e' := by rw [List.getElem?_zip_eq_some] at hj; exact hj.1
      have hlt : j < ops.toList.length := by
        rw [← hlen]
        rcases Nat.lt_or_ge j effs.length with h | h
        · exact h
        · rw [List.getElem?_eq_none h] at hje; cases hje
      have hjz : (ops.toList.zip effs)[j]? = some (ops.toList[j], e') := by
        rw [List.getElem?_zip_eq_some]; exact ⟨List.getElem?_eq_getElem hlt, hje⟩
      have := hz j _ e' hjz
      rw [hj] at this
      simp only [Option.some.injEq, Prod.mk.injEq, true_and] at this
      exact .inr ⟨j, _, e', hjz, by omega, h2, h3'⟩
end Go.Sx
end
section
namespace Go.Sx
open Go

section
variable {C : Ctx} {Pre : Nat → List D → Prop} {call : FuncId → List AV → Base → Nat → X Eff} {base : Base}

def tlL (S : St) (le : List (Oper × Eff)) (L : Nat → Bool) : Nat → AV := fun t => (lw (Wt le) L (fun t => some (S.tl t)) le.length t).getD .bad
def hlL (base : Base) (S : St) (le : List (Oper × Eff)) (L : Nat → Bool) : Base := fun b => lw (Wh le) L (S.hl base) le.length b

/-- The facts of a canonical run that the orders lean on. -/
structure Canon (C : Ctx) (Pre : Nat → List D → Prop) (call : FuncId → List AV → Base → Nat → X Eff) (base : Base) (ops : Array Oper) (S : St) (le : List (Oper × Eff)) : Prop where
  len : le.length = ops.toList.length
  op : ∀ (i : Nat) (o : Oper), ops.toList[i]? = some o → ∃ e, le[i]? = some (o, e)
  at_ : ∀ (i : Nat) (o : Oper) (e : Eff), le[i]? = some (o, e) → ops.toList[i]? = some o ∧ OpAt C Pre call ops (sAt S le i).tl ((sAt S le i).hl base) (sAt S le i).nx o e ∧ (∀ d, o.dst = some d → d < S.tm.length)
  fresh : ∀ b, S.nx ≤ b → b < (sAt S le le.length).nx → S.hl base b = none
  ord : OrdOk ops.toList S.nx le (fun i => (sAt S le i).nx)

variable {ops : Array Oper} {S : St} {le : List (Oper × Eff)}

theorem Canon.nx_mono (hcs : CallsOk C Pre call) (h : Canon C Pre call base ops S le) : ∀ i, i < le.length → (sAt S le i).nx ≤ (sAt S le (i + 1)).nx := by
  intro i hi
  have hg : le[i]? = some (le[i].1, le[i].2) := List.getElem?_eq_getElem hi
  rw [sAt_nx hg]
  exact ((h.at_ i _ _ hg).2.1.wsOk hcs).1
theorem Canon.nx_le (hcs : CallsOk C Pre call) (h : Canon C Pre call base ops S le) {i : Nat} : ∀ {j : Nat}, i ≤ j → j ≤ le.length → (sAt S le i).nx ≤ (sAt S le j).nx
  | 0, hij, _ => by rw [Nat.le_zero.1 hij]; exact Nat.le_refl _
  | j + 1, hij, hj => by
    rcases Nat.lt_or_ge j i with hlt | hge
    · rw [show i = j + 1 from by omega]; exact Nat.le_refl _
    · exact Nat.le_trans (h.nx_le hcs hge (by omega)) (h.nx_mono hcs j (by omega))
theorem sAt_zero : sAt S le 0 = S := by cases le <;> rfl

theorem Canon.freshAt (hcs : CallsOk C Pre call) (h : Canon C Pre call base ops S le) : ∀ i, i ≤ le.length → ∀ b, (sAt S le i).nx ≤ b → b < (sAt S le le.length).nx → (sAt S le i).hl base b = none
  | 0, _, b, h1, h2 => by rw [sAt_zero] at h1 ⊢; exact h.fresh b h1 h2
  | i + 1, hi, b, h1, h2 => by
    have hlt : i < le.length := by omega
    have hg : le[i]? = some (le[i].1, le[i].2) := List.getElem?_eq_getElem hlt
    have hm := h.nx_mono hcs i hlt
    have ih := h.freshAt hcs i (by omega) b (by omega) h2
    have hw := (h.at_ i _ _ hg).2.1.wsOk hcs
    rw [sAt_nx hg] at h1
    rw [sAt_succ hg, St.put_hl]
    simp only [over, ih, Option.or_none]
    cases hb : le[i].2.ws.lookup b with
    | none => rfl
    | some x =>
      rcases hw.2 b x hb with h3 | h3
      · omega
      · exact absurd ih h3

theorem Wh_some {j b : Nat} (h : Wh le j b ≠ none) : ∃ o e x, le[j]? = some (o, e) ∧ e.ws.lookup b = some x := by
  unfold Wh at h
  cases hj : le[j]? with
  | none => simp [hj] at h
  | some p =>
    obtain ⟨o, e⟩ := p
    simp only [hj, Option.bind_some] at h
    cases hb : e.ws.lookup b with
    | none => exact absurd hb h
    | some x => exact ⟨o, e, x, rfl, hb⟩

/-- Where one operation may come up, the state that the executor saw before it is as good as the one that is. -/
theorem Canon.agree (hcs : CallsOk C Pre call) (h : Canon C Pre call base ops S le) {L : Nat → Bool} {i : Nat} {o : Oper} {e : Eff} (hi : le[i]? = some (o, e)) (hLi : L i = false)
    (hCl : ∀ k j, k < le.length → Bf ops.toList k j → L k = true → L j = true) (hBf : ∀ j, Bf ops.toList i j → L j = true) (hBr : ∀ j, Bf ops.toList j i → j < le.length → L j = false) :
    (∀ t, t ∈ o.looksAt ops → tlL S le L t = (sAt S le i).tl t) ∧
    (∀ b, b ∈ e.rd → ∀ x, (sAt S le i).hl base b = some x → hlL base S le L b = some x) ∧
    (∀ b, (sAt S le i).nx ≤ b → b < e.nx → hlL base S le L b = none) ∧
    (∀ M : Nat → Bool, (∀ j, M j = if j = i then true else L j) → tlL S le M = setTl (tlL S le L) o.dst e.v ∧ hlL base S le M = over (hlL base S le L) e.ws) := by
  have hilt : i < le.length := by
    rcases Nat.lt_or_ge i le.length with h' | h'
    · exact h'
    · rw [List.getElem?_eq_none h'] at hi; cases hi
  obtain ⟨hio, hat, hdst⟩ := h.at_ i o e hi
  have hoAt : ∀ (j : Nat) (o' : Oper) (e' : Eff), le[j]? = some (o', e') → ops.toList[j]? = some o' := fun j o' e' hj => (h.at_ j o' e' hj).1
  have hjlt : ∀ {j : Nat} {p : Oper × Eff}, le[j]? = some p → j < le.length := by
    intro j p hj
    rcases Nat.lt_or_ge j le.length with h' | h'
    · exact h'
    · rw [List.getElem?_eq_none h'] at hj; cases hj
  have hnxj : ∀ {j : Nat} {o' : Oper} {e' : Eff}, le[j]? = some (o', e') → (sAt S le (j + 1)).nx = e'.nx := fun hj => sAt_nx hj
  have hend : ∀ {j : Nat} {o' : Oper} {e' : Eff}, le[j]? = some (o', e') → e'.nx ≤ (sAt S le le.length).nx := fun {j} {o'} {e'} hj => by
    rw [← hnxj hj]; exact h.nx_le hcs (hjlt hj) (Nat.le_refl _)
  have hdisj : ∀ {b j j' : Nat} {o1 o2 : Oper} {e1 e2 : Eff}, le[j]? = some (o1, e1) → le[j']? = some (o2, e2) → (sAt S le j).nx ≤ b → b < e1.nx → (sAt S le j').nx ≤ b → b < e2.nx → j = j' := by
    intro b j j' o1 o2 e1 e2 hj hj' p1 p2 p3 p4
    rcases Nat.lt_trichotomy j j' with hl | hl | hl
    · have := h.nx_le hcs (show j + 1 ≤ j' from hl) (Nat.le_of_lt (hjlt hj'))
      rw [hnxj hj] at this; omega
    · exact hl
    · have := h.nx_le hcs (show j' + 1 ≤ j from hl) (Nat.le_of_lt (hjlt hj))
      rw [hnxj hj'] at this; omega
  have hordL : ∀ (j : Nat), j < le.length → j ≠ i → (if i < j then Bf ops.toList j i else Bf ops.toList i j) → (j < i → L j = true) ∧ (i < j → L j = false) := by
    intro j hjl hji hb
    refine ⟨fun hlt => ?_, fun hgt => ?_⟩
    · rw [if_neg (by omega)] at hb; exact hBf j hb
    · rw [if_pos hgt] at hb; exact hBr j hb hjl
  -- a writer of a block that this operation looks at or writes
  have hbar : ∀ (b : Nat) (j : Nat) (o' : Oper) (e' : Eff) (y : Blk), le[j]? = some (o', e') → j ≠ i → e'.ws.lookup b = some y → (b ∈ e.rd ∨ e.ws.lookup b ≠ none) →
      ((sAt S le j).nx ≤ b ∧ b < e'.nx) ∨ ((j < i → L j = true) ∧ (i < j → L j = false)) := by
    intro b j o' e' y hj hji hy hrw
    rcases h.ord.bar j o' e' hj b y hy with hnew | hb
    · exact .inl hnew
    · exact .inr (hordL j (hjlt hj) hji (hb i o e hi hji hrw))
  refine ⟨?_, ?_, ?_, ?_⟩
  · intro t ht
    have hd : ∀ (i : Nat) (o : Oper) (e : Eff), le[i]? = some (o, e) → ∀ d, o.dst = some d → d < S.tm.length := fun i o e hi => (h.at_ i o e hi).2.2
    unfold tlL
    rw [sAt_tl hd i (Nat.le_of_lt hilt)]
    have key : ∀ (j : Nat), j ≠ i → Wt le j t ≠ none → (j < i → L j = true) ∧ (i < j → j < le.length → L j = false) := by
      intro j hji hw
      unfold Wt at hw
      cases hj : le[j]? with
      | none => simp [hj] at hw
      | some p =>
        obtain ⟨o', e'⟩ := p
        simp only [hj, Option.bind_some, ne_eq, ite_eq_right_iff, reduceCtorEq, imp_false, Classical.not_not] at hw
        obtain ⟨_, hord⟩ := h.ord.dst i j o o' t hio (hoAt j o' e' hj) (Ne.symm hji) hw
        have hor := hord (by simpa using ht)
        refine ⟨fun hlt => ?_, fun hgt hjl => ?_⟩
        · rcases hor with hb | hb
          · exact hBf j hb
          · have := Bf.lt h.ord.preds j o' i (hoAt j o' e' hj) hb; omega
        · rcases hor with hb | hb
          · have := Bf.lt h.ord.preds i o j hio hb; omega
          · exact hBr j hb hjl
    rw [lw_drop (Nat.le_of_lt hilt) (fun j h1 h2 hL => by
      by_cases hji : j = i
      · subst hji; rw [hLi] at hL; cases hL
      · apply Classical.byContradiction
        intro hw
        have := (key j hji hw).2 (by omega) h2
        rw [this] at hL; cases hL)]
    rw [lw_congr (M := fun _ => true) (fun j hj hw => (key j (by omega) hw).1 hj)]
  · intro b hrd x hx
    unfold hlL
    rw [sAt_hl i (Nat.le_of_lt hilt)] at hx
    have key : ∀ (j : Nat), j ≠ i → Wh le j b ≠ none → (j < i → L j = true) ∧ (i < j → L j = false) := by
      intro j hji hw
      obtain ⟨o', e', y, hj, hy⟩ := Wh_some hw
      rcases hbar b j o' e' y hj hji hy (.inl hrd) with ⟨hb1, hb2⟩ | hb
      · rcases h.ord.rd i o e hi b hrd with h0 | ⟨j2, o2, e2, hj2, q1, q2, q3⟩
        · exfalso
          have := h.nx_le hcs (Nat.zero_le j) (Nat.le_of_lt (hjlt hj))
          rw [sAt_zero] at this; omega
        · have := hdisj hj hj2 hb1 hb2 q1 q2
          subst this
          refine ⟨fun _ => hBf j q3, fun hgt => ?_⟩
          have := Bf.lt h.ord.preds i o j hio q3
          omega
      · exact hb
    rw [lw_drop (Nat.le_of_lt hilt) (fun j h1 h2 hL => by
      by_cases hji : j = i
      · subst hji; rw [hLi] at hL; cases hL
      · apply Classical.byContradiction
        intro hw
        have := (key j hji hw).2 (by omega)
        rw [this] at hL; cases hL)]
    rw [lw_congr (M := fun _ => true) (fun j hj hw => (key j (by omega) hw).1 hj)]
    exact hx
  · intro b hb1 hb2
    apply Classical.byContradiction
    intro hne
    unfold hlL at hne
    have hbe : b < (sAt S le le.length).nx := by have := hend hi; omega
    rcases lw_isSome hne with h0 | ⟨j, h1, h2, h3⟩
    · apply h0
      apply h.fresh b _ hbe
      have := h.nx_le hcs (Nat.zero_le i) (Nat.le_of_lt hilt)
      rw [sAt_zero] at this; omega
    · -- whoever writes b, the operation itself does so, too
      have hself : ∀ (m : Nat), m < le.length → Wh le m b ≠ none → Wh le i b ≠ none := by
        intro m
        induction m using Nat.strongRecOn with
        | _ m ih =>
          intro hm hw
          obtain ⟨o', e', y, hj, hy⟩ := Wh_some hw
          rcases ((h.at_ m o' e' hj).2.1.wsOk hcs).2 b y hy with ⟨q1, q2⟩ | q
          · have := hdisj hi hj hb1 hb2 q1 q2
            rw [this]; exact hw
          · rw [sAt_hl m (Nat.le_of_lt hm)] at q
            rcases lw_isSome q with q0 | ⟨m', p1, _, p3⟩
            · exfalso
              apply q0
              apply h.fresh b _ hbe
              have := h.nx_le hcs (Nat.zero_le i) (Nat.le_of_lt hilt)
              rw [sAt_zero] at this; omega
            · exact ih m' p1 (by omega) p3
      obtain ⟨o', e', y, hj, hy⟩ := Wh_some h3
      have hji : j ≠ i := fun e0 => by rw [e0, hLi] at h2; cases h2
      obtain ⟨o2, e2, z, hi2, hz⟩ := Wh_some (hself j h1 h3)
      obtain ⟨rfl, rfl⟩ : o = o2 ∧ e = e2 := by rw [hi] at hi2; simpa using hi2
      rcases hbar b j o' e' y hj hji hy (.inr (by rw [hz]; simp)) with ⟨q1, q2⟩ | hb3
      · exact hji (hdisj hj hi q1 q2 hb1 hb2)
      · rcases Nat.lt_or_ge j i with hl | hg
        · rcases ((h.at_ j o' e' hj).2.1.wsOk hcs).2 b y hy with ⟨q1, q2⟩ | q
          · exact hji (hdisj hj hi q1 q2 hb1 hb2)
          · apply q
            apply h.freshAt hcs j (Nat.le_of_lt h1) b _ hbe
            have := h.nx_le hcs (Nat.le_of_lt hl) (Nat.le_of_lt hilt); omega
        · have := hb3.2 (by omega)
          rw [this] at h2; cases h2
  · intro M hM
    constructor
    · funext t
      unfold tlL setTl
      rw [lw_add hilt hLi hM (fun hw j h1 h2 hL => by
        apply Classical.byContradiction
        intro hw2
        unfold Wt at hw hw2
        cases hj : le[j]? with
        | none => simp [hj] at hw2
        | some p =>
          obtain ⟨o', e'⟩ := p
          simp only [hj, Option.bind_some, ne_eq, ite_eq_right_iff, reduceCtorEq, imp_false, Classical.not_not] at hw2
          simp only [hi, Option.bind_some, ne_eq, ite_eq_right_iff, reduceCtorEq, imp_false, Classical.not_not] at hw
          exact (h.ord.dst i j o o' t hio (hoAt j o' e' hj) (by omega) hw2).1 hw)]
      simp only [Wt, hi, Option.bind_some]
      by_cases hd : o.dst = some t
      · simp [hd]
      · simp [hd]
    · funext b
      unfold hlL over
      rw [lw_add hilt hLi hM (fun hw j h1 h2 hL => by
        apply Classical.byContradiction
        intro hw2
        obtain ⟨o', e', y, hj, hy⟩ := Wh_some hw2
        obtain ⟨o2, e2, z, hi2, hz⟩ := Wh_some hw
        obtain ⟨rfl, rfl⟩ : o = o2 ∧ e = e2 := by rw [hi] at hi2; simpa using hi2
        have noL : Bf ops.toList j i → False := fun hb => by
          have := hBr j hb h2
          rw [this] at hL; cases hL
        rcases h.ord.bar i o e hi b z hz with q1 | hb'
        · rcases h.ord.bar j o' e' hj b y hy with q2 | hb2'
          · have := hdisj hi hj q1.1 q1.2 q2.1 q2.2
            omega
          · have := hb2' i o e hi (by omega) (.inr (by rw [hz]; simp))
            rw [if_pos h1] at this
            exact noL this
        · have := hb' j o' e' hj (by omega) (.inr (by rw [hy]; simp))
          rw [if_neg (by omega)] at this
          exact noL this)]
      simp [Wh, hi]
end
end Go.Sx
end
section
namespace Go.Sx
open Go

section
variable {C : Ctx} {Pre : Nat → List D → Prop} {call : FuncId → List AV → Base → Nat → X Eff} {base : Base}
variable {ops : Array Oper} {S : St} {le : List (Oper × Eff)}

theorem OpAt.congr (hcs : CallsOk C Pre call) {tl tl' : Nat → AV} {hl hl' : Base} {nx : Nat} {o : Oper} {e : Eff}
    (ht : ∀ t, t ∈ o.looksAt ops → tl' t = tl t) (hh : ∀ b ∈ e.rd, ∀ y, hl b = some y → hl' b = some y) (h : OpAt C Pre call ops tl hl nx o e) : OpAt C Pre call ops tl' hl' nx o e := by
  have hx : ∀ x ∈ o.op.operands, ev tl' x = ev tl x := by
    intro x hx
    cases x with
    | tmp t =>
      refine ht t ?_
      unfold Oper.looksAt
      refine List.mem_append_left _ ?_
      exact List.mem_filterMap.2 ⟨.tmp t, by simpa using hx, rfl⟩
    | _ => rfl
  have run : (opEvalS C.P C.G (fun f args => call f args hl nx) tl hl nx (guardDsts ops) o).Ev C Pre e → (opEvalS C.P C.G (fun f args => call f args hl' nx) tl' hl' nx (guardDsts ops) o).Ev C Pre e := fun h => by
    obtain ⟨e0, h1, h2⟩ := X.ev_bind h
    have s3 := (settle_ev h2).2.2.1
    rw [s3] at hh
    exact X.ev_bind_intro (opEval_congr hx hh (fun f args he => hcs.pure hl hl' nx f args e0 he hh) h1) h2
  unfold OpAt at h ⊢
  cases hg : o.guard with
  | none => simp only [hg] at h ⊢; exact run h
  | some jw =>
    obtain ⟨j, want⟩ := jw
    simp only [hg] at h ⊢
    obtain ⟨d, h1, h3⟩ := h
    have hm : tl' d = tl d := by
      refine ht d ?_
      unfold Oper.looksAt
      refine List.mem_append_right _ ?_
      simp [hg, h1]
    refine ⟨d, h1, ?_⟩
    rw [hm]
    exact h3.imp (fun ⟨t, a, b, c⟩ => ⟨t, a, b, run c⟩) id

theorem operand_good {C : Ctx} {Pre : Nat → List D → Prop} {call : FuncId → List AV → X Eff} {tl : Nat → AV} {hl : Base} {nx : Nat} {o : Oper} {e : Eff}
    {gd : List Tmp} (h : (opEvalS C.P C.G call tl hl nx gd o).Ev C Pre e) : ∀ x ∈ o.op.operands, ev tl x ≠ .bad := by
  obtain ⟨e0, h, _⟩ := X.ev_bind h
  unfold opEval at h
  have hb := (X.ev_bguard h).1
  intro x hx he
  have := List.all_eq_true.1 hb x (by simpa using hx)
  rw [he] at this; simp [AV.isBad] at this

theorem drawn_hp {ρ : Nat → Option Nat} {hl : Base} {w : World} (h : Hp C hl ρ w) (d : Nat) : Hp C hl ρ { w with drawn := d } ∧ Adv C hl ρ w hl ρ { w with drawn := d } := by
  have hA : Adv C hl ρ w hl ρ { w with drawn := d } := ⟨Nat.le_refl _, fun _ _ hn => ⟨rfl, hn⟩, fun _ _ h => h⟩
  exact ⟨⟨h.dom, h.own, h.inj, fun b l e hb => let ⟨k, cs, h1, h2, h3⟩ := h.cells b l e hb; ⟨k, cs, h1, h2, hA.vrs h3⟩,
    h.below.trans ⟨rfl, rfl, rfl, Nat.le_refl _, fun _ _ => rfl⟩, h.room⟩, hA⟩

theorem countP_le' {α : Type} {p q : α → Bool} : ∀ {l : List α}, (∀ x ∈ l, p x = true → q x = true) → l.countP p ≤ l.countP q
  | [], _ => by simp
  | x :: l, h => by
    have ih := countP_le' (l := l) fun y hy => h y (List.mem_cons_of_mem _ hy)
    simp only [List.countP_cons]
    by_cases hp : p x = true
    · simp [hp, h x List.mem_cons_self hp]; exact ih
    · simp only [hp, Bool.false_eq_true, if_false]; omega
theorem countP_lt {α : Type} {p q : α → Bool} {x : α} : ∀ {l : List α}, (∀ y ∈ l, p y = true → q y = true) → x ∈ l → p x = false → q x = true → l.countP p < l.countP q
  | [], _, hx, _, _ => by cases hx
  | y :: l, h, hx, hp, hq => by
    have hle := countP_le' (l := l) fun z hz => h z (List.mem_cons_of_mem _ hz)
    simp only [List.countP_cons]
    rcases List.mem_cons.1 hx with rfl | hx
    · simp only [hp, hq, Bool.false_eq_true, if_false, if_true]; omega
    · have ih := countP_lt (l := l) (fun z hz => h z (List.mem_cons_of_mem _ hz)) hx hp hq
      by_cases hpy : p y = true
      · simp only [hpy, h y List.mem_cons_self hpy, if_true]; omega
      · simp only [hpy, Bool.false_eq_true, if_false]; omega

theorem Canon.any (hc : CtxOk C) (hcs : CallsOk C Pre call) (h : Canon C Pre call base ops S le) {ρ0 : Nat → Option Nat} {w0 : World} {Q : Exit → Act → World → Prop}
    (hQ : ∀ a' w' ρ', TmR C (sAt S le le.length).tl ((sAt S le le.length).hl base) ρ' S.tm.length a' w' → Hp C ((sAt S le le.length).hl base) ρ' w' →
      Adv C (S.hl base) ρ0 w0 ((sAt S le le.length).hl base) ρ' w' → Q .normal a' w') :
    ∀ (fuel : Nat) (listed : Array Bool) (a : Act) (w : World), listed.size = ops.size → (∀ i o, ops.toList[i]? = some o → listed.getD i false = true → ∀ k ∈ predsOf o, listed.getD k false = true) →
      (List.range ops.size).countP (fun i => !listed.getD i false) ≤ fuel →
      (∃ ρ', TmR C (tlL S le fun i => listed.getD i false) (hlL base S le fun i => listed.getD i false) ρ' S.tm.length a w ∧ Hp C (hlL base S le fun i => listed.getD i false) ρ' w ∧
        Adv C (S.hl base) ρ0 w0 (hlL base S le fun i => listed.getD i false) ρ' w) →
      wpAny C.P .any ops Q fuel listed a w := by
  have hlen : le.length = ops.size := by rw [h.len]; simp
  have hall : ∀ listed : Array Bool, listed.size = ops.size → Region.ready .any ops listed = [] → ∀ i, i < ops.size → listed.getD i false = true := by
    intro listed hls hr i
    induction i using Nat.strongRecOn with
    | _ i ih =>
      intro hi
      apply Classical.byContradiction
      intro hn
      have hn' : listed.getD i false = false := by simpa using hn
      have hil : i < ops.toList.length := by simpa using hi
      have hoi : ops.toList[i]? = some ops.toList[i] := List.getElem?_eq_getElem hil
      have : i ∈ Region.ready .any ops listed := mem_ready.2 ⟨by simpa [hls, hi] using hn', ops.toList[i], by simpa using hoi, fun e he hb => by
        have hk : e.on ∈ predsOf ops.toList[i] := List.mem_filterMap.2 ⟨e, by simpa using he, by simp [hb]⟩
        have := h.ord.preds i _ hoi _ hk
        exact ih e.on this (by omega)⟩
      rw [hr] at this; cases this
  have hfin : ∀ (listed : Array Bool) (a : Act) (w : World), listed.size = ops.size → Region.ready .any ops listed = [] →
      (∃ ρ', TmR C (tlL S le fun i => listed.getD i false) (hlL base S le fun i => listed.getD i false) ρ' S.tm.length a w ∧ Hp C (hlL base S le fun i => listed.getD i false) ρ' w ∧
        Adv C (S.hl base) ρ0 w0 (hlL base S le fun i => listed.getD i false) ρ' w) → Q .normal a w := by
    intro listed a w hls hr ⟨ρ', h1, h2, h3⟩
    have e1 : (tlL S le fun i => listed.getD i false) = (sAt S le le.length).tl := by
      funext t
      rw [sAt_tl (fun i o e hi => (h.at_ i o e hi).2.2) le.length (Nat.le_refl _)]
      unfold tlL
      rw [lw_congr (M := fun _ => true) (fun j hj _ => hall listed hls hr j (by omega))]
    have e2 : (hlL base S le fun i => listed.getD i false) = (sAt S le le.length).hl base := by
      funext b
      rw [sAt_hl le.length (Nat.le_refl _)]
      unfold hlL
      rw [lw_congr (M := fun _ => true) (fun j hj _ => hall listed hls hr j (by omega))]
    rw [e1, e2] at h1
    rw [e2] at h2 h3
    exact hQ a w ρ' h1 h2 h3
  intro fuel
  induction fuel with
  | zero =>
    intro listed a w hls hcl hcnt hinv
    have hr : Region.ready .any ops listed = [] := by
      cases hr : Region.ready .any ops listed with
      | nil => rfl
      | cons i l =>
        have hi : i ∈ Region.ready .any ops listed := by rw [hr]; exact List.mem_cons_self
        obtain ⟨h1, o, h2, _⟩ := mem_ready.1 hi
        have hilt : i < ops.size := by
          rcases Nat.lt_or_ge i ops.size with h' | h'
          · exact h'
          · rw [Array.getElem?_eq_none h'] at h2; cases h2
        have : 0 < (List.range ops.size).countP (fun i => !listed.getD i false) := List.countP_pos_iff.2 ⟨i, List.mem_range.2 hilt, by simpa [hls, hilt] using h1⟩
        omega
    exact ⟨hr, hfin listed a w hls hr hinv⟩
  | succ fuel ih =>
    intro listed a w hls hcl hcnt hinv
    refine ⟨fun hr => hfin listed a w hls hr hinv, fun i hi => ?_⟩
    obtain ⟨h1, o, h2, h3⟩ := mem_ready.1 hi
    have hilt : i < ops.size := by
      rcases Nat.lt_or_ge i ops.size with h' | h'
      · exact h'
      · rw [Array.getElem?_eq_none h'] at h2; cases h2
    have hoi : ops.toList[i]? = some o := by simpa using h2
    obtain ⟨e, hie⟩ := h.op i o hoi
    have hLi : listed.getD i false = false := by simpa [hls, hilt] using h1
    have hpreds : ∀ k ∈ predsOf o, listed.getD k false = true := by
      intro k hk
      obtain ⟨ed, hed, hk'⟩ := List.mem_filterMap.1 hk
      by_cases hb : Region.binds .any ed = true
      · simp only [hb, if_true, Option.some.injEq] at hk'
        rw [← hk']; exact h3 ed (by simpa using hed) hb
      · simp [hb] at hk'
    have hBf : ∀ j, Bf ops.toList i j → listed.getD j false = true := fun j hb =>
      Bf.listed h.ord.preds (L := fun i => listed.getD i false) hcl i o j hoi hpreds hb
    have hCl : ∀ k j, k < le.length → Bf ops.toList k j → listed.getD k false = true → listed.getD j false = true := by
      intro k j hk hb hL
      have hkl : k < ops.toList.length := by rw [← h.len]; exact hk
      have hok : ops.toList[k]? = some ops.toList[k] := List.getElem?_eq_getElem hkl
      exact Bf.listed h.ord.preds (L := fun i => listed.getD i false) hcl k _ j hok (hcl k _ hok hL) hb
    have hBr : ∀ j, Bf ops.toList j i → j < le.length → listed.getD j false = false := by
      intro j hb hj
      apply Classical.byContradiction
      intro hn
      have := hCl j i hj hb (by simpa using hn)
      rw [hLi] at this; cases this
    obtain ⟨g1, g2, g4, g5⟩ := h.agree hcs (L := fun i => listed.getD i false) hie hLi hCl hBf hBr
    obtain ⟨ρ', k1, k2, k3⟩ := hinv
    obtain ⟨_, hat, hdst⟩ := h.at_ i o e hie
    have hat' : OpAt C Pre call ops (tlL S le fun i => listed.getD i false) (hlL base S le fun i => listed.getD i false) (sAt S le i).nx o e := hat.congr hcs g1 g2
    obtain ⟨m1, m2⟩ := g5 (fun j => (listed.setIfInBounds i true).getD j false) (fun j => by
      by_cases hj : j = i
      · subst hj; simp [hls, hilt]
      · rw [if_neg hj]; simp [Array.getElem?_setIfInBounds_ne (Ne.symm hj)])
    refine opAt_wpOp hc hcs (by simpa using hoi) k1 k2 g4 hdst hat' _ _ (fun a' w' ρ'' q1 q2 q3 => ?_)
    refine ih _ a' w' (by simpa using hls) ?_ ?_ ⟨ρ'', by rw [m1, m2]; exact q1, by rw [m2]; exact q2, by rw [m2]; exact k3.trans q3⟩
    · intro i' o' hi' hL' k hk
      by_cases hki : k = i
      · subst hki; simp [hls, hilt]
      · have : listed.getD k false = true := by
          by_cases hii : i' = i
          · subst hii
            obtain rfl : o' = o := by rw [hoi] at hi'; simpa using hi'.symm
            exact hpreds k hk
          · refine hcl i' o' hi' ?_ k hk
            simpa [Array.getElem?_setIfInBounds_ne (Ne.symm hii)] using hL'
        simpa [Array.getElem?_setIfInBounds_ne (Ne.symm hki)] using this
    · have hlt : (List.range ops.size).countP (fun j => !(listed.setIfInBounds i true).getD j false) < (List.range ops.size).countP (fun j => !listed.getD j false) := by
        refine countP_lt (fun j _ hj => ?_) (List.mem_range.2 hilt) (by simp [hls, hilt]) (by simpa using hLi)
        by_cases hji : j = i
        · subst hji; simp [hls, hilt] at hj
        · simpa [Array.getElem?_setIfInBounds_ne (Ne.symm hji)] using hj
      omega
end
end Go.Sx
end
section
namespace Go.Sx
open Go

/-- From here the frame comes to its return. -/
def Ends (P : Program) (todo : List Item) (a : Act) (w : World) (R : Act → World → Prop) : Prop :=
  ∀ (b : Frame) (cs : List Frame), b.kind = .normal → ∃ a' w' todo', R a' w' ∧ Steps P (lone (b.at a todo) cs w) (lone { b.at a' todo' with mode := .returning } cs w')

section
variable {P : Program} {a : Act} {w : World} {R : Act → World → Prop} {k todo : List Item}
theorem Ends.step {todo' : List Item} (h : Ends P todo' a w R) (hs : ∀ (b : Frame) (cs : List Frame), step P (lone (b.at a todo) cs w) = .next (lone (b.at a todo') cs w)) : Ends P todo a w R := by
  intro b cs hb
  obtain ⟨a', w', t', h1, h2⟩ := h b cs hb
  exact ⟨a', w', t', h1, .head (hs b cs) h2⟩
theorem Ends.mono {R' : Act → World → Prop} (h : Ends P todo a w R) (hr : ∀ a w, R a w → R' a w) : Ends P todo a w R' := fun b cs hb =>
  let ⟨a', w', t', h1, h2⟩ := h b cs hb
  ⟨a', w', t', hr _ _ h1, h2⟩
theorem ends_nil (h : R a w) : Ends P [] a w R := fun _ _ _ => ⟨a, w, [], h, .one step_end⟩
theorem ends_ret (h : R a w) : Ends P (.code .ret :: k) a w R := fun _ _ _ => ⟨a, w, _, h, .one step_ret⟩
theorem ends_ops {ops : Array Oper} {l : List Nat} (h : wpOps P ops (fun e a w => e = .normal ∧ Ends P k a w R) l a w) : Ends P (.inRegion ops l :: k) a w R := by
  intro b cs hb
  obtain ⟨e, a', w', ⟨rfl, hE⟩, harr⟩ := wp_ops l a w h b k cs
  obtain ⟨a2, w2, t2, h1, h2⟩ := hE b cs hb
  exact ⟨a2, w2, t2, h1, Steps.trans harr h2⟩
theorem ends_region {ops : Array Oper} {id : Nat} (h : wpOps P ops (fun e a w => e = .normal ∧ Ends P k a w R) (List.range ops.size) a w) : Ends P (.code (.region id ops false) :: k) a w R :=
  (ends_ops h).step fun _ _ => step_region
theorem ends_region_draw {ops : Array Oper} {id : Nat} (hm : P.follows .mixedOrders = true)
    (h : wpAny P .any ops (fun e a w => e = .normal ∧ Ends P k a w R) ops.size (Array.replicate ops.size false) a { w with drawn := w.drawn + 1 }) : Ends P (.code (.region id ops true) :: k) a w R := by
  intro b cs hb
  have hs := step_region_draw (P := P) (b := b) (a := a) (k := k) (cs := cs) (w := w) (ops := ops) (id := id)
  simp only [Region.schedule, hm, Bool.true_or, if_true] at hs
  obtain ⟨a', w', t', h1, h2⟩ := ends_ops (wpAny_sound (P := P) (ops := ops) (md := .any) ops.size (w.tape w.drawn (.order b.fn id)) (Array.replicate ops.size false) a _ h) b cs hb
  exact ⟨a', w', t', h1, .head hs h2⟩
theorem calls_of_ends {f : FuncId} {fn : Func} {c : Code} {args : Array Value} {R : Ending → World → Prop} (hf : P.funcs[f]? = some fn) (hb : fn.body = some c)
    (h : Ends P [.code c] { tmps := args ++ Array.replicate (fn.ntmps - args.size) undef, defers := [] } w (fun a' w' => a'.defers = [] ∧ ∃ v, (results fn a'.tmps).run P w' = .ok v w' ∧ R (.returned v) w')) :
    Calls P f args w R := by
  intro cs
  let b : Frame := { (default : Frame) with fn := f, kind := .normal }
  have henter : Frame.enter P f args .normal = b.at { tmps := args ++ Array.replicate (fn.ntmps - args.size) undef, defers := [] } [.code c] := by
    simp [Frame.enter, Frame.at, hf, hb, b]
  obtain ⟨a', w', t', ⟨hd, v, hr, hR⟩, hs⟩ := h b cs rfl
  rw [← henter] at hs
  exact ⟨.returned v, w', _, hR, hs, rfl, rfl, hd, rfl, fn, hf, hr⟩
end

section
variable {C : Ctx} {Pre : Nat → List D → Prop} {call : FuncId → List AV → Base → Nat → X Eff} {base : Base}

theorem opsRun_nx (hcs : CallsOk C Pre call) {ops : Array Oper} : ∀ {l : List Oper} {S S' : St} {effs : List Eff}, (opsRun C.P C.G call base ops l S).Ev C Pre (S', effs) →
    S.nx ≤ S'.nx ∧ S'.tm.length = S.tm.length ∧ (∀ b, S'.nx ≤ b → S.hl base b = none → S'.hl base b = none)
  | [], S, S', effs, h => by
    have := X.ev_ret h
    cases this
    exact ⟨Nat.le_refl _, rfl, fun _ _ h => h⟩
  | o :: l, S, S', effs, h => by
    obtain ⟨e, effs', rfl, h1, h2, h3⟩ := opsRun_cons h
    obtain ⟨g1, g2, g3⟩ := opsRun_nx hcs h3
    have hw := h1.wsOk hcs
    have hnx : (S.put o.dst e).nx = e.nx := rfl
    have hw1 := hw.1
    refine ⟨by omega, by rw [g2, St.put_len], fun b hb hn => g3 b hb ?_⟩
    rw [St.put_hl]
    simp only [over, hn, Option.or_none]
    cases hl : e.ws.lookup b with
    | none => rfl
    | some x =>
      rcases hw.2 b x hl with h | h
      · omega
      · exact absurd hn h


theorem opsRun_seq (hc : CtxOk C) (hcs : CallsOk C Pre call) {ops : Array Oper} {Q : Exit → Act → World → Prop} : ∀ {l : List Oper} {k : Nat} {S S' : St} {effs : List Eff} {ρ : Nat → Option Nat} {a : Act} {w : World},
    (∀ j, l[j]? = ops[k + j]?) → (opsRun C.P C.G call base ops l S).Ev C Pre (S', effs) → TmR C S.tl (S.hl base) ρ S.tm.length a w → Hp C (S.hl base) ρ w →
    (∀ b, S.nx ≤ b → b < S'.nx → S.hl base b = none) →
    (∀ a' w' ρ', TmR C S'.tl (S'.hl base) ρ' S'.tm.length a' w' → Hp C (S'.hl base) ρ' w' → Adv C (S.hl base) ρ w (S'.hl base) ρ' w' → Q .normal a' w') →
    wpOps C.P ops Q (List.range' k l.length) a w
  | [], k, S, S', effs, ρ, a, w, _, h, hT, hH, _, hQ => by
    have := X.ev_ret h
    cases this
    exact hQ a w ρ hT hH (Adv.refl _ _ _ _)
  | o :: l, k, S, S', effs, ρ, a, w, hl, h, hT, hH, hf, hQ => by
    obtain ⟨e, effs', rfl, h1, h2, h3⟩ := opsRun_cons h
    have hw := h1.wsOk hcs
    have hn3 := opsRun_nx hcs h3
    have hnx : (S.put o.dst e).nx = e.nx := rfl
    have hk : ops[k]? = some o := by simpa using (hl 0).symm
    rw [List.length_cons, List.range'_succ, wpOps_cons]
    refine opAt_wpOp hc hcs hk hT hH (fun b hb1 hb2 => hf b hb1 (by omega)) h2 h1 _ _ (fun a' w' ρ' q1 q2 q3 => ?_)
    rw [← St.put_tl _ _ _ h2, ← St.put_hl S base o.dst e] at q1
    rw [← St.put_hl S base o.dst e] at q2 q3
    refine opsRun_seq hc hcs (fun j => by have := hl (j + 1); simpa [Nat.add_assoc, Nat.add_comm 1 j] using this) h3 (by rw [St.put_len]; exact q1) q2 ?_ (fun a2 w2 ρ2 r1 r2 r3 => hQ a2 w2 ρ2 r1 r2 (q3.trans r3))
    intro b hb1 hb2
    rw [hnx] at hb1
    have hn := hf b (by have := hw.1; omega) hb2
    rw [St.put_hl]
    simp only [over, hn, Option.or_none]
    cases hlk : e.ws.lookup b with
    | none => rfl
    | some x =>
      rcases hw.2 b x hlk with h | h
      · omega
      · exact absurd hn h
end
end Go.Sx
end
section
namespace Go.Sx
open Go

section
variable {C : Ctx} {Pre : Nat → List D → Prop} {call : FuncId → List AV → Base → Nat → X Eff} {base : Base}

/-- What a frame has written: new blocks of its own, or such as were there. -/
def FrWs (base : Base) (nx0 : Nat) (S : St) : Prop := nx0 ≤ S.nx ∧ ∀ b x, S.ws.lookup b = some x → (nx0 ≤ b ∧ b < S.nx) ∨ base b ≠ none

theorem FrWs.put {nx0 : Nat} {S : St} {e : Eff} (h : FrWs base nx0 S) (hw : WsOk (S.hl base) S.nx e) (dst : Option Tmp) : FrWs base nx0 (S.put dst e) := by
  have h1 := h.1
  have hw1 := hw.1
  refine ⟨show nx0 ≤ e.nx by omega, fun b x hb => ?_⟩
  simp only [St.put, lookup_hputs] at hb
  cases hl : e.ws.lookup b with
  | some y =>
    rcases hw.2 b y hl with h2 | h2
    · exact .inl ⟨by omega, h2.2⟩
    · unfold St.hl at h2
      cases hs : S.ws.lookup b with
      | none => simp only [hs, Option.none_or] at h2; exact .inr h2
      | some z => exact (h.2 b z hs).imp (fun ⟨p, q⟩ => ⟨p, show b < e.nx by omega⟩) id
  | none =>
    rw [hl, Option.none_or] at hb
    exact (h.2 b x hb).imp (fun ⟨p, q⟩ => ⟨p, show b < e.nx by omega⟩) id

theorem opsRun_ws (hcs : CallsOk C Pre call) {ops : Array Oper} {nx0 : Nat} : ∀ {l : List Oper} {S S' : St} {effs : List Eff}, (opsRun C.P C.G call base ops l S).Ev C Pre (S', effs) → FrWs base nx0 S → FrWs base nx0 S'
  | [], S, S', effs, h, hf => by
    have := X.ev_ret h
    cases this
    exact hf
  | o :: l, S, S', effs, h, hf => by
    obtain ⟨e, effs', rfl, h1, h2, h3⟩ := opsRun_cons h
    exact opsRun_ws hcs h3 (hf.put (h1.wsOk hcs) _)

/-- What one step keeps. -/
structure StepKeeps (base : Base) (S S' : St) : Prop where
  nx : S.nx ≤ S'.nx
  len : S'.tm.length = S.tm.length
  none_ : ∀ b, S'.nx ≤ b → S.hl base b = none → S'.hl base b = none
  ws : ∀ nx0, FrWs base nx0 S → FrWs base nx0 S'

theorem StepKeeps.refl (S : St) : StepKeeps base S S := ⟨Nat.le_refl _, rfl, fun _ _ h => h, fun _ h => h⟩
theorem StepKeeps.trans {S1 S2 S3 : St} (a : StepKeeps base S1 S2) (b : StepKeeps base S2 S3) : StepKeeps base S1 S3 :=
  ⟨Nat.le_trans a.nx b.nx, b.len.trans a.len, fun x hx hn => b.none_ x hx (a.none_ x (Nat.le_trans b.nx hx) hn), fun n h => b.ws n (a.ws n h)⟩

/-- One step of a frame, taken apart: it returns, it goes on in the same state, or it has carried out a region. -/
theorem stepX_cases {todo : List Item} {S S' : St} {r : Option (List Item)} (h : (stepX C.P C.G call base todo S).Ev C Pre (r, S')) :
    (r = none ∧ S' = S ∧ (todo = [] ∨ ∃ k, todo = .code .ret :: k)) ∨
    (∃ k, r = some k ∧ S' = S ∧ ∀ (a : Act) (w : World) (ρ : Nat → Option Nat) (R : Act → World → Prop), TmR C S.tl (S.hl base) ρ S.tm.length a w → Ends C.P k a w R → Ends C.P todo a w R) ∨
    (∃ id ops draw k effs, todo = .code (.region id ops draw) :: k ∧ r = some k ∧ (opsRun C.P C.G call base ops ops.toList S).Ev C Pre (S', effs) ∧
      (draw = true → C.P.follows .mixedOrders = true ∧ orderOk ops S.nx effs = true)) := by
  have ret : ∀ {k : Option (List Item)}, (X.ret (k, S) : X (Option (List Item) × St)).Ev C Pre (r, S') → r = k ∧ S' = S := fun h => by
    have := X.ev_ret h; simpa using this
  have keep : ∀ {k : List Item}, (∀ (a : Act) (w : World) (b : Frame) (cs : List Frame), step C.P (lone (b.at a todo) cs w) = .next (lone (b.at a k) cs w)) → (X.ret (some k, S) : X (Option (List Item) × St)).Ev C Pre (r, S') →
      (∃ k, r = some k ∧ S' = S ∧ ∀ (a : Act) (w : World) (ρ : Nat → Option Nat) (R : Act → World → Prop), TmR C S.tl (S.hl base) ρ S.tm.length a w → Ends C.P k a w R → Ends C.P todo a w R) := fun {k} hs h =>
    ⟨k, (ret h).1, (ret h).2, fun a w ρ R _ hE => hE.step (hs a w)⟩
  unfold stepX at h
  simp only at h
  split at h
  · exact .inl ⟨(ret h).1, (ret h).2, .inl rfl⟩
  · exact .inl ⟨(ret h).1, (ret h).2, .inr ⟨_, rfl⟩⟩
  · exact .inr (.inl (keep (fun _ _ _ _ => step_skip) h))
  · exact .inr (.inl (keep (fun _ _ _ _ => step_label) h))
  · exact .inr (.inl (keep (fun _ _ _ _ => step_inBlock) h))
  · exact .inr (.inl (keep (fun _ _ _ _ => step_inScope) h))
  · exact .inr (.inl (keep (fun _ _ _ _ => step_seq) h))
  · rename_i c thn els k
    split at h
    · rename_i t ht
      obtain ⟨b, h1, h⟩ := X.ev_bind h
      have hb := X.ev_test h1
      obtain ⟨e1, e2⟩ := ret h
      refine .inr (.inl ⟨_, e1, e2, fun a w ρ R hT hE => hE.step fun fr cs => ?_⟩)
      have := ev_VR hT (x := c) (by rw [ht]; simp)
      rw [ht] at this
      have hv := VR.bool_inv this
      rw [← hb] at hv
      exact step_cond hv
    · exact (show False from h).elim
  · exact .inr (.inl (keep (fun _ _ _ _ => step_block) h))
  · exact .inr (.inl (keep (fun _ _ _ _ => step_loop) h))
  · exact .inr (.inl (keep (fun _ _ _ _ => step_inLoop) h))
  · exact .inr (.inl (keep (fun _ _ _ _ => step_scope) h))
  · split at h
    · rename_i k' hk
      exact .inr (.inl (keep (fun _ _ _ _ => step_exit hk) h))
    · exact (show False from h).elim
  · split at h
    · rename_i k' hk
      exact .inr (.inl (keep (fun _ _ _ _ => step_goto hk) h))
    · exact (show False from h).elim
  · rename_i id ops draw k
    obtain ⟨⟨S1, effs⟩, h1, h⟩ := X.ev_bind h
    obtain ⟨hg, h⟩ := X.ev_bguard h
    have := X.ev_ret h
    simp only [Prod.mk.injEq] at this
    obtain ⟨rfl, rfl⟩ := this
    refine .inr (.inr ⟨id, ops, draw, k, effs, rfl, rfl, h1, fun hd => ?_⟩)
    rw [hd, PV.mixed_of] at hg
    simpa using hg
  · exact (show False from h).elim
end
end Go.Sx
end
section
namespace Go.Sx
open Go

section
variable {C : Ctx} {Pre : Nat → List D → Prop} {call : FuncId → List AV → Base → Nat → X Eff} {base : Base}

/-- The state of a frame. -/
structure FrR (C : Ctx) (base : Base) (S : St) (ρ : Nat → Option Nat) (a : Act) (w : World) : Prop where
  tm : TmR C S.tl (S.hl base) ρ S.tm.length a w
  hp : Hp C (S.hl base) ρ w

theorem getD_rep (n i : Nat) : (Array.replicate n false).getD i false = false := by
  by_cases h : i < n <;> simp [h]

theorem Canon.of_run (hcs : CallsOk C Pre call) {ops : Array Oper} {S S' : St} {effs : List Eff} (h : (opsRun C.P C.G call base ops ops.toList S).Ev C Pre (S', effs)) (ho : orderOk ops S.nx effs = true)
    (hf : ∀ b, S.nx ≤ b → b < S'.nx → S.hl base b = none) : Canon C Pre call base ops S (ops.toList.zip effs) ∧ S' = sAt S (ops.toList.zip effs) (ops.toList.zip effs).length := by
  obtain ⟨h1, h2, h3⟩ := opsRun_canon h
  have hlen : (ops.toList.zip effs).length = ops.toList.length := by simp [List.length_zip, h1]
  have hS : S' = sAt S (ops.toList.zip effs) (ops.toList.zip effs).length := by rw [hlen]; exact h2
  have hop : ∀ (i : Nat) (o : Oper), ops.toList[i]? = some o → ∃ e, (ops.toList.zip effs)[i]? = some (o, e) := by
    intro i o hi
    have hlt : i < effs.length := by
      rw [h1]
      rcases Nat.lt_or_ge i ops.toList.length with h | h
      · exact h
      · rw [List.getElem?_eq_none h] at hi; cases hi
    exact ⟨effs[i], by rw [List.getElem?_zip_eq_some]; exact ⟨hi, List.getElem?_eq_getElem hlt⟩⟩
  refine ⟨⟨hlen, hop, fun i o e hi => ⟨?_, h3 i o e hi⟩, fun b hb1 hb2 => hf b hb1 (by rw [hS]; exact hb2), ?_⟩, hS⟩
  · rw [List.getElem?_zip_eq_some] at hi; exact hi.1
  · refine orderOk_spec ho h1 _ (fun i e hi => ?_) (by rw [sAt_zero])
    have hlt : i < ops.toList.length := by
      rw [← h1]
      rcases Nat.lt_or_ge i effs.length with h | h
      · exact h
      · rw [List.getElem?_eq_none h] at hi; cases hi
    exact sAt_nx (o := ops.toList[i]) (by rw [List.getElem?_zip_eq_some]; exact ⟨List.getElem?_eq_getElem hlt, hi⟩)

theorem stepX_keeps (hcs : CallsOk C Pre call) {todo : List Item} {S S' : St} {r : Option (List Item)} (h : (stepX C.P C.G call base todo S).Ev C Pre (r, S')) : StepKeeps base S S' := by
  rcases stepX_cases h with ⟨_, rfl, _⟩ | ⟨_, _, rfl, _⟩ | ⟨id, ops, draw, k, effs, _, _, h1, _⟩
  · exact .refl _
  · exact .refl _
  · obtain ⟨g1, g2, g3⟩ := opsRun_nx hcs h1
    exact ⟨g1, g2, g3, fun n hn => opsRun_ws hcs h1 hn⟩

/-- A step of a frame is sound. -/
theorem stepX_sound (hc : CtxOk C) (hcs : CallsOk C Pre call) {todo k : List Item} {S S' : St} {ρ : Nat → Option Nat} {a : Act} {w : World} {R : Act → World → Prop}
    (h : (stepX C.P C.G call base todo S).Ev C Pre (some k, S')) (hF : FrR C base S ρ a w) (hf : ∀ b, S.nx ≤ b → b < S'.nx → S.hl base b = none)
    (hk : ∀ a' w' ρ', FrR C base S' ρ' a' w' → Adv C (S.hl base) ρ w (S'.hl base) ρ' w' → Ends C.P k a' w' R) : Ends C.P todo a w R := by
  rcases stepX_cases h with ⟨h1, _⟩ | ⟨k', h1, rfl, h2⟩ | ⟨id, ops, draw, k', effs, rfl, h1, h2, h3⟩
  · cases h1
  · cases h1
    exact h2 a w ρ R hF.tm (hk a w ρ hF (Adv.refl _ _ _ _))
  · cases h1
    have hlen : S'.tm.length = S.tm.length := (opsRun_nx hcs h2).2.1
    cases draw with
    | false =>
      refine ends_region ?_
      have := opsRun_seq hc hcs (ops := ops) (l := ops.toList) (k := 0) (Q := fun e a w => e = .normal ∧ Ends C.P k a w R) (by simp) h2 hF.tm hF.hp hf (fun a' w' ρ' q1 q2 q3 => ⟨rfl, hk a' w' ρ' ⟨q1, q2⟩ q3⟩)
      rw [List.range_eq_range', ← Array.length_toList]; exact this
    | true =>
      obtain ⟨hm, ho⟩ := h3 rfl
      obtain ⟨hcan, hS⟩ := Canon.of_run hcs h2 ho hf
      refine ends_region_draw hm ?_
      obtain ⟨hH1, hA1⟩ := drawn_hp hF.hp (w.drawn + 1)
      refine hcan.any hc hcs (ρ0 := ρ) (w0 := w) ?c0 ops.size (Array.replicate ops.size false) a _ (by simp) ?c1 ?c2 ?c3
      case c0 =>
        intro a' w' ρ' q1 q2 q3
        refine ⟨rfl, ?_⟩
        rw [← hS] at q1 q2 q3
        exact hk a' w' ρ' ⟨by rw [hlen]; exact q1, q2⟩ q3
      case c1 =>
        intro i o _ hL
        rw [getD_rep] at hL; cases hL
      case c2 => exact Nat.le_trans List.countP_le_length (by simp)
      case c3 =>
        have e1 : (tlL S (ops.toList.zip effs) fun i => (Array.replicate ops.size false).getD i false) = S.tl := by
          funext t
          unfold tlL
          rw [lw_drop (i := 0) (Nat.zero_le _) (fun j _ _ hL => by rw [getD_rep] at hL; cases hL)]
          rfl
        have e2 : (hlL base S (ops.toList.zip effs) fun i => (Array.replicate ops.size false).getD i false) = S.hl base := by
          funext b
          unfold hlL
          rw [lw_drop (i := 0) (Nat.zero_le _) (fun j _ _ hL => by rw [getD_rep] at hL; cases hL)]
          rfl
        rw [e1, e2]
        exact ⟨ρ, hF.tm.mono hA1, hH1, hA1⟩

theorem runX_keeps (hcs : CallsOk C Pre call) : ∀ {n : Nat} {todo : List Item} {S S' : St}, (runX C.P C.G call base n todo S).Ev C Pre S' → StepKeeps base S S'
  | 0, _, _, _, h => (show False from h).elim
  | n + 1, todo, S, S', h => by
    unfold runX at h
    obtain ⟨⟨r, S1⟩, h1, h2⟩ := X.ev_bind h
    have hk := stepX_keeps hcs h1
    cases r with
    | none => rw [X.ev_ret h2]; exact hk
    | some k => exact hk.trans (runX_keeps hcs h2)

/-- A run of a frame is sound. -/
theorem runX_sound (hc : CtxOk C) (hcs : CallsOk C Pre call) : ∀ {n : Nat} {todo : List Item} {S S' : St} {ρ : Nat → Option Nat} {a : Act} {w : World} {R : Act → World → Prop},
    (runX C.P C.G call base n todo S).Ev C Pre S' → FrR C base S ρ a w → (∀ b, S.nx ≤ b → b < S'.nx → S.hl base b = none) →
    (∀ a' w' ρ', FrR C base S' ρ' a' w' → Adv C (S.hl base) ρ w (S'.hl base) ρ' w' → R a' w') → Ends C.P todo a w R
  | 0, _, _, _, _, _, _, _, h, _, _, _ => (show False from h).elim
  | n + 1, todo, S, S', ρ, a, w, R, h, hF, hf, hR => by
    unfold runX at h
    obtain ⟨⟨r, S1⟩, h1, h2⟩ := X.ev_bind h
    have hk := stepX_keeps hcs h1
    cases r with
    | none =>
      have := X.ev_ret h2
      subst this
      rcases stepX_cases h1 with ⟨_, rfl, rfl | ⟨k, rfl⟩⟩ | ⟨_, h, _⟩ | ⟨_, _, _, _, _, _, h, _⟩
      · exact ends_nil (hR a w ρ hF (Adv.refl _ _ _ _))
      · exact ends_ret (hR a w ρ hF (Adv.refl _ _ _ _))
      · cases h
      · cases h
    | some k =>
      have hk2 := runX_keeps hcs h2
      refine stepX_sound hc hcs h1 hF (fun b hb1 hb2 => hf b hb1 (by have := hk2.nx; omega)) (fun a' w' ρ' q1 q2 => ?_)
      refine runX_sound hc hcs h2 q1 (fun b hb1 hb2 => hk.none_ b hb1 (hf b (by have := hk.nx; omega) hb2)) (fun a2 w2 ρ2 r1 r2 => hR a2 w2 ρ2 r1 (q2.trans r2))
end
end Go.Sx
end
section
namespace Go.Sx
open Go
open Go.RowKit (Below)

section
variable (w : World) (O : Nat → Prop)
def ReadsL : List Ty → List D → List Value → Prop
  | [], _, vs => vs = []
  | t :: ts, ds, vs => ∃ v vs', vs = v :: vs' ∧ Reads w O t (ds.headD default) v ∧ ReadsL ts ds.tail vs'
def ArgsR : List Sh → List D → List Value → Prop
  | [], _, us => us = []
  | .at t :: ps, ds, us => ∃ u us', us = u :: us' ∧ Reads w O t (ds.headD default) u ∧ ArgsR ps ds.tail us'
  | .agg l :: ps, ds, us => ∃ x us', us = .agg x :: us' ∧ ReadsL w O l ds x.toList ∧ ArgsR ps (ds.drop l.length) us'
end
def oneTup : List Value → Value
  | [v] => v
  | l => .tuple l.toArray

def GlobOk (G : Nat → Option (List Value)) (w : World) : Prop := ∀ g l, G g = some l → g < w.heap.size ∧ ∃ e fr, w.heap[g]? = some (.cells l.toArray e fr)

/-- The contract c, number i, holds. -/
def Con.Ok (P : Program) (F : Fns) (G : Nat → Option (List Value)) (Pre : Nat → List D → Prop) (i : Nat) (c : Con) : Prop :=
  (∀ (w : World) (O : Nat → Prop) (ds : List D) (us : List Value), GlobOk G w → (∀ k, O k → k < w.heap.size) → (∀ g l, G g = some l → ¬ O g) → ArgsR w O c.ps ds us → Pre i ds →
    Calls P c.f us.toArray w fun e w' => ∃ vs, e = .returned (oneTup vs) ∧ Below w.heap.size w w' ∧ ArgsR w' O c.rs (F i ds) vs) ∧
  ∀ g, c.fold = some g → ∀ ds, Pre i ds → F i ds = g ds

section
variable {C : Ctx} {Pre : Nat → List D → Prop} {ρ : Nat → Option Nat} {w : World} {O : Nat → Prop}

theorem atomT_reads {t : Ty} {v : AV} {u : Value} {x : T} (h : atomT t v = some x) (hv : VR C ρ O w v u) : Reads w O t (x.eval C.F C.η) u := by
  unfold atomT at h
  split at h
  · split at h
    · rename_i hk
      subst hk
      simp only [Option.some.injEq] at h; subst h
      simpa only [Reads, VR] using hv
    · cases h
  · simp only [Option.some.injEq] at h; subst h; simpa only [Reads, VR] using hv
  · simp only [Option.some.injEq] at h; subst h; simpa only [Reads, VR] using hv
  · split at h
    · rename_i hrow
      simp only [Option.some.injEq] at h; subst h
      rw [Ty.sames_eq hrow]
      simpa only [VR] using hv
    · cases h
  · simp only [Option.some.injEq] at h; subst h
    simp only [VR] at hv
    subst hv
    simp only [Reads, T.eval, D.rows]
    exact ⟨none, 0, rfl, Nat.le_refl _, trivial, rfl⟩
  · cases h

theorem atomsT_reads : ∀ {ts : List Ty} {vs : List AV} {us : List Value} {xs : List T} (rest : List D), atomsT ts vs = some xs → VRs C ρ O w vs us → ReadsL w O ts (T.evals C.F C.η xs ++ rest) us ∧ xs.length = ts.length
  | [], [], us, xs, rest, h, hv => by
    simp only [atomsT, Option.some.injEq] at h; subst h
    match us, hv with
    | [], _ => exact ⟨rfl, rfl⟩
    | _ :: _, hv => simp only [VRs] at hv
  | t :: ts, v :: vs, us, xs, rest, h, hv => by
    simp only [atomsT, Option.bind_eq_bind] at h
    cases hx : atomT t v with
    | none => simp [hx] at h
    | some x =>
      cases hxs : atomsT ts vs with
      | none => simp [hx, hxs] at h
      | some xs' =>
        simp only [hx, hxs, Option.bind_some, Option.some.injEq] at h
        subst h
        match us, hv with
        | u :: us, hv =>
          simp only [VRs] at hv
          obtain ⟨h1, h2⟩ := atomsT_reads rest hxs hv.2
          exact ⟨⟨u, us, rfl, atomT_reads hx hv.1, h1⟩, by simp [h2]⟩
        | [], hv => simp only [VRs] at hv
  | [], _ :: _, _, _, _, h, _ => by simp [atomsT] at h
  | _ :: _, [], _, _, _, h, _ => by simp [atomsT] at h

theorem evals_append (a b : List T) : T.evals C.F C.η (a ++ b) = T.evals C.F C.η a ++ T.evals C.F C.η b := by
  induction a with
  | nil => rfl
  | cons x a ih => simp [T.evals, ih]
theorem evals_length (a : List T) : (T.evals C.F C.η a).length = a.length := by
  induction a with
  | nil => rfl
  | cons x a ih => simp [T.evals, ih]

theorem argsT_reads : ∀ {ps : List Sh} {vs : List AV} {us : List Value} {xs : List T}, argsT ps vs = some xs → VRs C ρ O w vs us → ArgsR w O ps (T.evals C.F C.η xs) us
  | [], [], us, xs, h, hv => by
    match us, hv with
    | [], _ => rfl
    | _ :: _, hv => simp only [VRs] at hv
  | .at t :: ps, v :: vs, us, xs, h, hv => by
    simp only [argsT, Option.bind_eq_bind] at h
    cases hx : atomT t v with
    | none => simp [hx] at h
    | some x =>
      cases hxs : argsT ps vs with
      | none => simp [hx, hxs] at h
      | some xs' =>
        simp only [hx, hxs, Option.bind_some, Option.some.injEq] at h
        subst h
        match us, hv with
        | u :: us, hv =>
          simp only [VRs] at hv
          exact ⟨u, us, rfl, atomT_reads hx hv.1, argsT_reads hxs hv.2⟩
        | [], hv => simp only [VRs] at hv
  | .agg l :: ps, v :: vs, us, xs, h, hv => by
    cases v <;> simp only [argsT, reduceCtorEq] at h
    rename_i c
    simp only [Option.bind_eq_bind] at h
    cases hx : atomsT l c with
    | none => simp [hx] at h
    | some x =>
      cases hxs : argsT ps vs with
      | none => simp [hx, hxs] at h
      | some xs' =>
        simp only [hx, hxs, Option.bind_some, Option.some.injEq] at h
        subst h
        match us, hv with
        | u :: us, hv =>
          simp only [VRs, VR] at hv
          obtain ⟨⟨x1, rfl, hx1⟩, hrest⟩ := hv
          obtain ⟨h1, h2⟩ := atomsT_reads (T.evals C.F C.η xs') hx hx1
          rw [evals_append]
          refine ⟨x1, us, rfl, h1, ?_⟩
          rw [List.drop_left' (by rw [evals_length, h2])]
          exact argsT_reads hxs hrest
        | [], hv => simp only [VRs] at hv
  | [], _ :: _, _, _, h, _ => by simp [argsT] at h
  | .at _ :: _, [], _, _, h, _ => by simp [argsT] at h
  | .agg _ :: _, [], _, _, h, _ => by simp [argsT] at h

theorem Reads.of_noSl {t : Ty} {d : D} {u : Value} (hs : t.noSl = true) (h : Reads w O t d u) (O' : Nat → Prop) (w' : World) : Reads w' O' t d u := by
  cases t <;> simp_all [Ty.noSl, Reads]
theorem ReadsL.of_noSl : ∀ {ts : List Ty} {ds : List D} {us : List Value}, ts.all Ty.noSl = true → ReadsL w O ts ds us → ∀ (O' : Nat → Prop), ReadsL w O' ts ds us
  | [], _, _, _, h, _ => h
  | t :: ts, _, _, hs, ⟨v, vs, h1, h2, h3⟩, O' => by
    simp only [List.all_cons, Bool.and_eq_true] at hs
    exact ⟨v, vs, h1, h2.of_noSl hs.1 O' w, ReadsL.of_noSl hs.2 h3 O'⟩
theorem ArgsR.of_noSl : ∀ {ps : List Sh} {ds : List D} {us : List Value}, ps.all Sh.noSl = true → ArgsR w O ps ds us → ∀ (O' : Nat → Prop), ArgsR w O' ps ds us
  | [], _, _, _, h, _ => h
  | .at t :: ps, _, _, hs, ⟨v, vs, h1, h2, h3⟩, O' => by
    simp only [List.all_cons, Bool.and_eq_true] at hs
    exact ⟨v, vs, h1, h2.of_noSl hs.1 O' w, ArgsR.of_noSl hs.2 h3 O'⟩
  | .agg l :: ps, _, _, hs, ⟨v, vs, h1, h2, h3⟩, O' => by
    simp only [List.all_cons, Bool.and_eq_true] at hs
    exact ⟨v, vs, h1, h2.of_noSl hs.1 O', ArgsR.of_noSl hs.2 h3 O'⟩

theorem Reads.free {t : Ty} {d : D} {u : Value} (h : Reads w O t d u) : Reads w (fun _ => False) t d u := h.mono (Nat.le_refl _) (fun _ _ _ => ⟨rfl, fun h => h⟩)

theorem ReadsRow.free : ∀ {ts : List Ty} {ds : List D} {b o : Nat}, ReadsRow w O ts ds b o → ReadsRow w (fun _ => False) ts ds b o
  | [], _, _, _, h => by simp only [ReadsRow]
  | t :: ts, ds, b, o, h => by
    simp only [ReadsRow] at h ⊢
    obtain ⟨⟨u, h1, h2⟩, h3⟩ := h
    exact ⟨⟨u, h1, h2.free⟩, ReadsRow.free h3⟩
theorem readsRow_of {k : Nat} : ∀ {row rest : List Ty} {ds : List D} {us : List Value} {o : Nat}, ReadsL w O (row ++ rest) ds us → (∀ c, c < us.length → w.cell? ⟨k, o + c, none⟩ = us[c]?) →
    ReadsRow w O row (ds.take row.length) k o ∧ ReadsL w O rest (ds.drop row.length) (us.drop row.length) ∧ row.length ≤ us.length
  | [], rest, ds, us, o, h, _ => ⟨by simp only [ReadsRow], by simpa using h, by simp⟩
  | t :: row, rest, ds, us, o, h, hw => by
    obtain ⟨v, vs, rfl, h1, h2⟩ := h
    obtain ⟨g1, g2, g3⟩ := readsRow_of (k := k) (o := o + 1) h2 (fun c hc => by
      have := hw (c + 1) (by simpa using hc)
      rw [show o + 1 + c = o + (c + 1) from by omega, this]; simp)
    refine ⟨?_, ?_, by simpa using g3⟩
    · simp only [ReadsRow, List.length_cons]
      refine ⟨⟨v, by simpa using hw 0 (by simp), ?_⟩, ?_⟩
      · cases ds <;> simpa using h1
      · cases ds
        · simpa using g1
        · simpa using g1
    · cases ds
      · simpa using g2
      · simpa using g2
theorem readsRows_of {k : Nat} {row : List Ty} : ∀ {n : Nat} {ds : List D} {us : List Value} {o : Nat}, ReadsL w O (List.replicate n row).flatten ds us → (∀ c, c < us.length → w.cell? ⟨k, o + c, none⟩ = us[c]?) →
    ∀ i, i < n → ReadsRow w O row ((ds.drop (i * row.length)).take row.length) k (o + i * row.length)
  | 0, _, _, _, _, _, i, hi => by omega
  | n + 1, ds, us, o, h, hw, i, hi => by
    rw [List.replicate_succ, List.flatten_cons] at h
    obtain ⟨g1, g2, g3⟩ := readsRow_of (k := k) (o := o) h hw
    cases i with
    | zero => simpa using g1
    | succ i =>
      have := readsRows_of (k := k) (o := o + row.length) g2 (fun c hc => by
        simp only [List.length_drop] at hc
        rw [show o + row.length + c = o + (row.length + c) from by omega, hw (row.length + c) (by omega)]
        simp) i (by omega)
      rw [List.drop_drop] at this
      rw [show (i + 1) * row.length = row.length + i * row.length from by rw [Nat.succ_mul]; omega, show o + (row.length + i * row.length) = o + row.length + i * row.length from by omega]
      exact this

theorem VRs.take_drop {l : List AV} {us : List Value} (h : VRs C ρ O w l us) (o n : Nat) : VRs C ρ O w ((l.drop o).take n) ((us.drop o).take n) := (h.drop o).take n

theorem eval_mat (n k : Nat) (ts : List T) : ((T.mk (.mat n k) ts).eval C.F C.η).rows = (List.range n).map fun i => ((T.evals C.F C.η ts).drop (i * k)).take k := by
  rw [T.eval_mk]
  rcases hh : T.evals C.F C.η ts with _ | ⟨a, _ | ⟨b, _ | ⟨c, l⟩⟩⟩ <;> rfl

theorem atomH_reads {hl : Base} (hH : Hp C hl ρ w) {t : Ty} {v : AV} {u : Value} {x : T} (h : atomH hl t v = some x) (hv : VR C ρ (Own C hl ρ) w v u) : Reads w (fun _ => False) t (x.eval C.F C.η) u := by
  unfold atomH at h
  split at h
  · rename_i b o n cap
    split at h
    · rename_i row
      split at h
      · rename_i l e hb
        split at h
        · rename_i hlen
          cases hts : atomsT (List.replicate n row).flatten ((l.drop o).take (n * row.length)) with
          | none => simp [hts] at h
          | some ts =>
            simp only [hts, Option.map_some, Option.some.injEq] at h
            subst h
            obtain ⟨k, cs, h1, h2, h3⟩ := hH.cells b l e hb
            simp only [VR] at hv
            obtain ⟨k', h4, rfl⟩ := hv
            have hk : k' = k := by rw [h1] at h4; simpa using h4.symm
            subst hk
            obtain ⟨g1, _⟩ := atomsT_reads [] hts (h3.take_drop o (n * row.length))
            rw [List.append_nil] at g1
            have hlc : l.length = cs.toList.length := h3.length
            have hrows := eval_mat (C := C) n row.length ts
            simp only [Reads]
            refine ⟨some ⟨k', o, none⟩, cap, by rw [hrows]; simp, by rw [hrows]; simpa using hlen.2, rfl, fun h => h, (hH.own b k' h1).2, fun i hi => ?_⟩
            rw [hrows] at hi ⊢
            simp only [List.length_map, List.length_range] at hi
            have := readsRows_of (k := k') (o := o) g1 (fun c hc => by
              simp only [List.length_take, List.length_drop] at hc
              simp only [World.cell?, h2]
              rw [List.getElem?_take, if_pos (Nat.lt_of_lt_of_le hc (Nat.min_le_left _ _)), List.getElem?_drop, Array.getElem?_toList]
              simp) i hi
            rw [List.getD_eq_getElem?_getD, List.getElem?_map, List.getElem?_range hi]
            exact this.free
        · cases h
      · cases h
    · cases h
  · exact (atomT_reads h hv).free
theorem atomsH_reads {hl : Base} (hH : Hp C hl ρ w) : ∀ {ts : List Ty} {vs : List AV} {us : List Value} {xs : List T} (rest : List D), atomsH hl ts vs = some xs → VRs C ρ (Own C hl ρ) w vs us →
    ReadsL w (fun _ => False) ts (T.evals C.F C.η xs ++ rest) us ∧ xs.length = ts.length
  | [], [], us, xs, rest, h, hv => by
    simp only [atomsH, Option.some.injEq] at h; subst h
    match us, hv with
    | [], _ => exact ⟨rfl, rfl⟩
    | _ :: _, hv => simp only [VRs] at hv
  | t :: ts, v :: vs, us, xs, rest, h, hv => by
    simp only [atomsH] at h
    split at h
    · rename_i x xs' hx hxs
      simp only [Option.some.injEq] at h
      subst h
      match us, hv with
      | u :: us, hv =>
        simp only [VRs] at hv
        obtain ⟨h1, h2⟩ := atomsH_reads hH rest hxs hv.2
        exact ⟨⟨u, us, rfl, atomH_reads hH hx hv.1, h1⟩, by simp [h2]⟩
      | [], hv => simp only [VRs] at hv
    · cases h
  | [], _ :: _, _, _, _, h, _ => by simp [atomsH] at h
  | _ :: _, [], _, _, _, h, _ => by simp [atomsH] at h
theorem argsH_reads {hl : Base} (hH : Hp C hl ρ w) : ∀ {ps : List Sh} {vs : List AV} {us : List Value} {xs : List T}, argsH hl ps vs = some xs → VRs C ρ (Own C hl ρ) w vs us → ArgsR w (fun _ => False) ps (T.evals C.F C.η xs) us
  | [], [], us, xs, h, hv => by
    match us, hv with
    | [], _ => rfl
    | _ :: _, hv => simp only [VRs] at hv
  | .at t :: ps, v :: vs, us, xs, h, hv => by
    simp only [argsH] at h
    split at h
    · rename_i x xs' hx hxs
      simp only [Option.some.injEq] at h
      subst h
      match us, hv with
      | u :: us, hv =>
        simp only [VRs] at hv
        exact ⟨u, us, rfl, atomH_reads hH hx hv.1, argsH_reads hH hxs hv.2⟩
      | [], hv => simp only [VRs] at hv
    · cases h
  | .agg l :: ps, v :: vs, us, xs, h, hv => by
    cases v <;> simp only [argsH, reduceCtorEq] at h
    rename_i c
    split at h
    · rename_i x xs' hx hxs
      simp only [Option.some.injEq] at h
      subst h
      match us, hv with
      | u :: us, hv =>
        simp only [VRs, VR] at hv
        obtain ⟨⟨x1, rfl, hx1⟩, hrest⟩ := hv
        obtain ⟨h1, h2⟩ := atomsH_reads hH (T.evals C.F C.η xs') hx hx1
        rw [evals_append]
        refine ⟨x1, us, rfl, h1, ?_⟩
        rw [List.drop_left' (by rw [evals_length, h2])]
        exact argsH_reads hH hxs hrest
      | [], hv => simp only [VRs] at hv
    · cases h
  | [], _ :: _, _, _, h, _ => by simp [argsH] at h
  | .at _ :: _, [], _, _, h, _ => by simp [argsH] at h
  | .agg _ :: _, [], _, _, h, _ => by simp [argsH] at h

theorem atomH_congr {hl hl' : Base} {t : Ty} {v : AV} (h : ∀ b ∈ v.ownSl, ∀ y, hl b = some y → hl' b = some y) {x : T} (hx : atomH hl t v = some x) : atomH hl' t v = some x := by
  unfold atomH at hx ⊢
  split at hx
  · rename_i b o n cap
    split at hx
    · split at hx
      · rename_i l e hb
        rw [h b (by simp [AV.ownSl]) _ hb]
        exact hx
      · cases hx
    · cases hx
  · exact hx
theorem atomsH_congr {hl hl' : Base} : ∀ {ts : List Ty} {vs : List AV} {xs : List T}, (∀ b ∈ vs.flatMap AV.ownSl, ∀ y, hl b = some y → hl' b = some y) → atomsH hl ts vs = some xs → atomsH hl' ts vs = some xs
  | [], [], _, _, h => h
  | t :: ts, v :: vs, xs, hb, h => by
    simp only [atomsH] at h ⊢
    split at h
    · rename_i x xs' hx hxs
      rw [atomH_congr (fun b hm => hb b (by simp [hm])) hx, atomsH_congr (fun b hm => hb b (by rw [List.flatMap_cons]; exact List.mem_append_right _ hm)) hxs]
      exact h
    · cases h
  | [], _ :: _, _, _, h => by simp [atomsH] at h
  | _ :: _, [], _, _, h => by simp [atomsH] at h
theorem argsH_congr {hl hl' : Base} : ∀ {ps : List Sh} {vs : List AV} {xs : List T}, (∀ b ∈ vs.flatMap AV.ownIn, ∀ y, hl b = some y → hl' b = some y) → argsH hl ps vs = some xs → argsH hl' ps vs = some xs
  | [], [], _, _, h => h
  | .at t :: ps, v :: vs, xs, hb, h => by
    simp only [argsH] at h ⊢
    split at h
    · rename_i x xs' hx hxs
      have hv : ∀ b ∈ v.ownSl, b ∈ v.ownIn := by intro b hm; cases v <;> first | exact hm | simp [AV.ownSl] at hm
      rw [atomH_congr (fun b hm => hb b (by rw [List.flatMap_cons]; exact List.mem_append_left _ (hv b hm))) hx, argsH_congr (fun b hm => hb b (by rw [List.flatMap_cons]; exact List.mem_append_right _ hm)) hxs]
      exact h
    · cases h
  | .agg l :: ps, v :: vs, xs, hb, h => by
    cases v <;> simp only [argsH, reduceCtorEq] at h ⊢
    rename_i c
    split at h
    · rename_i x xs' hx hxs
      rw [atomsH_congr (fun b hm => hb b (by rw [List.flatMap_cons]; exact List.mem_append_left _ hm)) hx, argsH_congr (fun b hm => hb b (by rw [List.flatMap_cons]; exact List.mem_append_right _ hm)) hxs]
      exact h
    · cases h
  | [], _ :: _, _, _, h => by simp [argsH] at h
  | .at _ :: _, [], _, _, h => by simp [argsH] at h
  | .agg _ :: _, [], _, _, h => by simp [argsH] at h

theorem lits_evals {l : List T} {ds : List D} (h : T.lits l = some ds) : T.evals C.F C.η l = ds := T.evals_lits h
/-- The leaves of a contract's answer. -/
theorem conT_eval {c : Con} {i : Nat} {l : List T} (hf : ∀ g, c.fold = some g → C.F i (T.evals C.F C.η l) = g (T.evals C.F C.η l)) (k : Nat) :
    ((conT c i l k).eval C.F C.η) = (C.F i (T.evals C.F C.η l)).getD k default := by
  unfold conT
  cases hg : c.fold with
  | none => rfl
  | some g =>
    cases hd : T.lits l with
    | none => rfl
    | some ds =>
      have e := lits_evals (C := C) hd
      simp only [T.eval]
      rw [hf g hg, e]

theorem resAV_vrs {mk : Nat → T} : ∀ {rs : List Sh} {j : Nat} {ds : List D} {us : List Value}, ArgsR w O rs ds us → (∀ k, ((mk (j + k)).eval C.F C.η) = ds.getD k default) → VRs C ρ O w (resAV mk rs j) us
  | [], j, ds, us, h, _ => by simp only [ArgsR] at h; subst h; simp [resAV, VRs]
  | .at t :: rs, j, ds, us, h, hm => by
    obtain ⟨u, us', rfl, h1, h2⟩ := h
    simp only [resAV, VRs]
    refine ⟨atomAV_VR ?_, resAV_vrs h2 (fun k => ?_)⟩
    · have := hm 0
      rw [Nat.add_zero] at this
      rw [this]
      cases ds <;> simpa using h1
    · have := hm (k + 1)
      rw [show j + 1 + k = j + (k + 1) from by omega, this]
      cases ds <;> simp
  | .agg l :: rs, j, ds, us, h, hm => by
    obtain ⟨x, us', rfl, h1, h2⟩ := h
    simp only [resAV, VRs, VR]
    refine ⟨⟨x, rfl, ?_⟩, resAV_vrs h2 (fun k => ?_)⟩
    · have key : ∀ (ts : List Ty) (p : Nat) (es : List D) (vs : List Value), ReadsL w O ts es vs → (∀ k, (mk (j + (p + k))).eval C.F C.η = es.getD k default) →
          VRs C ρ O w ((ts.zipIdx p).map fun (t, c) => atomAV t (mk (j + c))) vs := by
        intro ts
        induction ts with
        | nil => intro p es vs h _; simp only [ReadsL] at h; subst h; simp [VRs]
        | cons t ts ih =>
          intro p es vs h he
          obtain ⟨v, vs', rfl, g1, g2⟩ := h
          simp only [List.zipIdx_cons, List.map_cons, VRs]
          refine ⟨atomAV_VR ?_, ih (p + 1) es.tail vs' g2 (fun k => ?_)⟩
          · have := he 0
            rw [Nat.add_zero] at this
            rw [this]
            cases es <;> simpa using g1
          · have := he (k + 1)
            rw [show p + 1 + k = p + (k + 1) from by omega, this]
            cases es <;> simp
      exact key l 0 ds x.toList h1 (fun k => by simpa using hm k)
    · have := hm (l.length + k)
      rw [show j + l.length + k = j + (l.length + k) from by omega, this]
      simp [List.getD_eq_getElem?_getD]

theorem oneOrTup_vr {l : List AV} {us : List Value} (h : VRs C ρ O w l us) : VR C ρ O w (oneOrTup l) (oneTup us) := by
  match l, us, h with
  | [], [], h => simp only [oneOrTup, oneTup, VR]; exact ⟨_, rfl, by simpa using h⟩
  | [v], [u], h => simp only [VRs] at h; exact h.1
  | _ :: _ :: _, _ :: _ :: _, h => simp only [oneOrTup, oneTup, VR]; exact ⟨_, rfl, by simpa using h⟩
  | [], _ :: _, h => simp only [VRs] at h
  | [_], [], h => simp only [VRs] at h
  | [_], _ :: _ :: _, h => simp only [VRs] at h; exact h.2.elim
  | _ :: _ :: _, [], h => simp only [VRs] at h
  | _ :: _ :: _, [_], h => simp only [VRs] at h; exact h.2.elim

theorem below_hp {hl : Nat → Option Blk} {w' : World} (h : Hp C hl ρ w) (hb : Below w.heap.size w w') : Hp C hl ρ w' ∧ Adv C hl ρ w hl ρ w' := by
  have hA : Adv C hl ρ w hl ρ w' := ⟨hb.size, fun k hk hn => ⟨hb.block k hk, hn⟩, fun _ _ h => h⟩
  refine ⟨⟨h.dom, fun b k hk => ⟨(h.own b k hk).1, Nat.lt_of_lt_of_le (h.own b k hk).2 hb.size⟩, h.inj, fun b l e hbl => ?_, h.below.trans (hb.mono h.room), Nat.le_trans h.room hb.size⟩, hA⟩
  obtain ⟨k, cs, h1, h2, h3⟩ := h.cells b l e hbl
  exact ⟨k, cs, h1, by rw [hb.block k (h.own b k h1).2]; exact h2, hA.vrs h3⟩
end
end Go.Sx
end
section
namespace Go.Sx
open Go

section
variable {C : Ctx} {Pre : Nat → List D → Prop} {call : FuncId → List AV → Base → Nat → X Eff} {base base' : Base}



theorem X.test_ev : ∀ (t : T), ∃ b, (X.test t).Ev C Pre b
  | .v i => ⟨_, rfl⟩
  | .lit d => by cases d <;> exact ⟨_, rfl⟩
  | .app p l => by
    unfold X.test
    split
    · rename_i heq; simp at heq
    · rename_i x heq
      cases heq
      obtain ⟨r, hr⟩ := X.test_ev x
      exact ⟨_, X.ev_bind_intro hr rfl⟩
    · rename_i c x y heq
      cases heq
      obtain ⟨r, hr⟩ := X.test_ev c
      cases r
      · obtain ⟨b, hb⟩ := X.test_ev y
        exact ⟨b, X.ev_bind_intro hr hb⟩
      · obtain ⟨b, hb⟩ := X.test_ev x
        exact ⟨b, X.ev_bind_intro hr hb⟩
    · exact ⟨_, rfl⟩

theorem addRd_old {ws : Heap} : ∀ {l rd : List Nat} {b : Nat}, b ∈ rd → b ∈ addRd ws rd l
  | [], _, _, h => h
  | c :: l, rd, b, h => by
    simp only [addRd]
    split
    · exact addRd_old h
    · exact List.mem_cons_of_mem _ (addRd_old h)
theorem addRd_new {ws : Heap} : ∀ {l rd : List Nat} {b : Nat}, b ∈ l → ws.lookup b = none → b ∈ addRd ws rd l
  | c :: l, rd, b, h, hn => by
    simp only [addRd]
    rcases List.mem_cons.1 h with rfl | h
    · by_cases hc : (addRd ws rd l).contains b = true
      · simp only [hc, Bool.or_true, if_true]; simpa using hc
      · simp only [hn, Option.isSome_none, Bool.false_or, hc, if_false, Bool.false_eq_true]; exact List.mem_cons_self
    · split
      · exact addRd_new h hn
      · exact List.mem_cons_of_mem _ (addRd_new h hn)

theorem hl_congr {S : St} {rd : List Nat} (hb : ∀ b ∈ addRd S.ws S.rd rd, ∀ y, base b = some y → base' b = some y) : ∀ b ∈ rd, ∀ y, S.hl base b = some y → S.hl base' b = some y := by
  intro b hbr y hy
  unfold St.hl at hy ⊢
  cases hw : S.ws.lookup b with
  | some z => rw [hw] at hy; exact hy
  | none =>
    rw [hw] at hy
    simp only [Option.none_or] at hy ⊢
    exact hb b (addRd_new hbr hw) y hy

theorem opsRun_cons_intro {ops : Array Oper} {o : Oper} {rest : List Oper} {S S' : St} {e : Eff} {l : List Eff} (h1 : OpAt C Pre call ops S.tl (S.hl base) S.nx o e) (h2 : ∀ d, o.dst = some d → d < S.tm.length)
    (h3 : (opsRun C.P C.G call base ops rest (S.put o.dst e)).Ev C Pre (S', l)) : (opsRun C.P C.G call base ops (o :: rest) S).Ev C Pre (S', e :: l) := by
  have hd : ∀ s, (X.guard (match o.dst with | some d => decide (d < S.tm.length) | none => true) s).Ev C Pre () := by
    intro s
    cases hdst : o.dst with
    | none => rfl
    | some d => simp only [h2 d hdst, decide_true]; rfl
  unfold opsRun
  unfold OpAt at h1
  cases hg : o.guard with
  | none =>
    simp only [hg] at h1 ⊢
    exact X.ev_bind_intro h1 (X.ev_bind_intro (hd _) (X.ev_bind_intro h3 rfl))
  | some jw =>
    obtain ⟨j, want⟩ := jw
    simp only [hg] at h1 ⊢
    obtain ⟨d, g1, g3⟩ := h1
    simp only [g1, Option.map_some]
    have htest : ∀ {t : T}, (X.test t).Ev C Pre (t.eval C.F C.η).toBool := by
      intro t
      obtain ⟨b, hb⟩ := X.test_ev (C := C) (Pre := Pre) t
      rw [← X.ev_test hb]; exact hb
    rcases g3 with ⟨t, g2, g3, g4⟩ | ⟨⟨t, g2, g3⟩ | ⟨l, g2⟩, rfl⟩
    · simp only [g2]
      refine X.ev_bind_intro htest ?_
      rw [if_pos g3]
      exact X.ev_bind_intro g4 (X.ev_bind_intro (hd _) (X.ev_bind_intro h3 rfl))
    · simp only [g2]
      refine X.ev_bind_intro htest ?_
      rw [if_neg g3]
      exact X.ev_bind_intro (hd _) (X.ev_bind_intro h3 rfl)
    · simp only [g2]
      exact X.ev_bind_intro (hd _) (X.ev_bind_intro h3 rfl)

theorem opsRun_rd {ops : Array Oper} : ∀ {l : List Oper} {S S' : St} {effs : List Eff}, (opsRun C.P C.G call base ops l S).Ev C Pre (S', effs) → ∀ b ∈ S.rd, b ∈ S'.rd
  | [], S, S', effs, h => by
    have := X.ev_ret h
    cases this
    exact fun b h => h
  | o :: l, S, S', effs, h => by
    obtain ⟨e, effs', rfl, h1, h2, h3⟩ := opsRun_cons h
    exact fun b hb => opsRun_rd h3 b (addRd_old hb)

theorem opsRun_congr (hcs : CallsOk C Pre call) {ops : Array Oper} : ∀ {l : List Oper} {S S' : St} {effs : List Eff}, (opsRun C.P C.G call base ops l S).Ev C Pre (S', effs) →
    (∀ b ∈ S'.rd, ∀ y, base b = some y → base' b = some y) → (opsRun C.P C.G call base' ops l S).Ev C Pre (S', effs)
  | [], S, S', effs, h, _ => by
    have := X.ev_ret h
    cases this
    exact rfl
  | o :: l, S, S', effs, h, hb => by
    obtain ⟨e, effs', rfl, h1, h2, h3⟩ := opsRun_cons h
    refine opsRun_cons_intro (h1.congr hcs (fun _ _ => rfl) (hl_congr fun b hbm => hb b (opsRun_rd h3 b hbm))) h2 ?_
    exact opsRun_congr hcs h3 hb

theorem stepX_rd {todo : List Item} {S S' : St} {r : Option (List Item)} (h : (stepX C.P C.G call base todo S).Ev C Pre (r, S')) : ∀ b ∈ S.rd, b ∈ S'.rd := by
  rcases stepX_cases h with ⟨_, rfl, _⟩ | ⟨_, _, rfl, _⟩ | ⟨id, ops, draw, k, effs, _, _, h1, _⟩
  · exact fun _ h => h
  · exact fun _ h => h
  · exact opsRun_rd h1
theorem stepX_congr (hcs : CallsOk C Pre call) {todo : List Item} {S S' : St} {r : Option (List Item)} (h : (stepX C.P C.G call base todo S).Ev C Pre (r, S'))
    (hb : ∀ b ∈ S'.rd, ∀ y, base b = some y → base' b = some y) : (stepX C.P C.G call base' todo S).Ev C Pre (r, S') := by
  unfold stepX at h ⊢
  simp only at h ⊢
  split at h <;> try exact h
  rename_i id ops draw k
  obtain ⟨⟨S1, effs⟩, h1, h⟩ := X.ev_bind h
  have h' := h
  obtain ⟨hg, h⟩ := X.ev_bguard h
  have := X.ev_ret h
  simp only [Prod.mk.injEq] at this
  obtain ⟨rfl, rfl⟩ := this
  exact X.ev_bind_intro (opsRun_congr hcs h1 hb) h'
theorem runX_rd : ∀ {n : Nat} {todo : List Item} {S S' : St}, (runX C.P C.G call base n todo S).Ev C Pre S' → ∀ b ∈ S.rd, b ∈ S'.rd
  | 0, _, _, _, h => (show False from h).elim
  | n + 1, todo, S, S', h => by
    unfold runX at h
    obtain ⟨⟨r, S1⟩, h1, h2⟩ := X.ev_bind h
    have hk := stepX_rd h1
    cases r with
    | none => rw [X.ev_ret h2]; exact hk
    | some k => exact fun b hb => runX_rd h2 b (hk b hb)
theorem runX_congr (hcs : CallsOk C Pre call) : ∀ {n : Nat} {todo : List Item} {S S' : St}, (runX C.P C.G call base n todo S).Ev C Pre S' →
    (∀ b ∈ S'.rd, ∀ y, base b = some y → base' b = some y) → (runX C.P C.G call base' n todo S).Ev C Pre S'
  | 0, _, _, _, h, _ => (show False from h).elim
  | n + 1, todo, S, S', h, hb => by
    unfold runX at h ⊢
    obtain ⟨⟨r, S1⟩, h1, h2⟩ := X.ev_bind h
    cases r with
    | none =>
      have := X.ev_ret h2
      subst this
      exact X.ev_bind_intro (stepX_congr hcs h1 hb) rfl
    | some k =>
      exact X.ev_bind_intro (stepX_congr hcs h1 (fun b hbm => hb b (runX_rd h2 b hbm))) (runX_congr hcs h2 hb)
theorem resultsA_congr {fn : Func} {S : St} {v : AV} (h : resultsA C.P C.G fn S (S.hl base) = some v) (hb : ∀ b ∈ resRd fn S, ∀ y, S.hl base b = some y → S.hl base' b = some y) :
    resultsA C.P C.G fn S (S.hl base') = some v := by
  unfold resultsA at h ⊢
  unfold resRd at hb
  have key : ∀ (rs : List ResultVar) (l : List AV), (∀ b ∈ rs.filterMap (fun x => match x with
      | .tmp _ => none
      | .cell a _ => match S.tl a with | .ptr b _ => some b | _ => none), ∀ y, S.hl base b = some y → S.hl base' b = some y) →
      rs.mapM (resA C.P C.G S (S.hl base)) = some l → rs.mapM (resA C.P C.G S (S.hl base')) = some l := by
    intro rs
    induction rs with
    | nil => intro l _ h; exact h
    | cons r rs ih =>
      intro l hb h
      rw [List.mapM_cons] at h ⊢
      simp only [Option.bind_eq_bind, Option.pure_def] at h ⊢
      cases hr : resA C.P C.G S (S.hl base) r with
      | none => simp only [hr, Option.bind_none, reduceCtorEq] at h
      | some x =>
        cases hrs : rs.mapM (resA C.P C.G S (S.hl base)) with
        | none => simp only [hr, hrs, Option.bind_some, Option.bind_none, reduceCtorEq] at h
        | some xs =>
          simp only [hr, hrs, Option.bind_some] at h
          have h1 : resA C.P C.G S (S.hl base') r = some x := by
            cases r with
            | tmp t => exact hr
            | cell ad t =>
              simp only [resA] at hr ⊢
              cases hs : S.tl ad <;> simp only [hs, reduceCtorEq] at hr ⊢
              rename_i b o
              cases hbl : S.hl base b with
              | none => simp [loadA, hbl] at hr
              | some y =>
                have := hb b (by simp [hs]) y hbl
                simp only [loadA, hbl] at hr
                simp only [loadA, this]; exact hr
          have h2 := ih xs (fun b hbm => hb b (by rw [List.filterMap_cons]; split <;> first | exact hbm | exact List.mem_cons_of_mem _ hbm)) hrs
          simp only [h1, h2, Option.bind_some]; exact h
  cases hm : fn.results.toList.mapM (resA C.P C.G S (S.hl base)) with
  | none => simp [hm] at h
  | some l => rw [hm] at h; rw [key _ l hb hm]; exact h
end
end Go.Sx
end
section
namespace Go.Sx
open Go
open Go.RowKit (Below)

section
variable {C : Ctx} {Pre : Nat → List D → Prop} {base : Base} {cons : List Con}

theorem find_zipIdx {α : Type} {p : α × Nat → Bool} {l : List α} {c : α} {i : Nat} (h : l.zipIdx.find? p = some (c, i)) : l[i]? = some c ∧ p (c, i) = true :=
  ⟨List.mem_zipIdx_iff_getElem?.1 (List.mem_of_find?_eq_some h), List.find?_some h⟩

theorem enterSt_tl (fn : Func) (args : List AV) (nx : Nat) (t : Nat) : (enterSt fn args nx).tl t = if t < args.length then args.getD t .bad else .bad := by
  simp only [enterSt, St.tl, Tm.get_of]
  split
  · rfl
  · rename_i h
    rw [List.getD_eq_getElem?_getD, List.getElem?_eq_none (by omega)]; rfl

theorem enter_tm {ρ : Nat → Option Nat} {hl : Base} {w : World} {fn : Func} {args : List AV} {us : List Value} {nx : Nat} (hv : VRs C ρ (Own C hl ρ) w args us) (hle : args.length ≤ fn.ntmps) :
    TmR C (enterSt fn args nx).tl hl ρ (enterSt fn args nx).tm.length { tmps := us.toArray ++ Array.replicate (fn.ntmps - us.toArray.size) undef, defers := [] } w := by
  have hlen := hv.length
  refine ⟨rfl, by simp [enterSt, hlen, Tm.of], fun t => ?_⟩
  rw [enterSt_tl]
  by_cases ht : t < args.length
  · rw [if_pos ht]
    have hg : args[t]? = some args[t] := List.getElem?_eq_getElem ht
    obtain ⟨u, h1, h2⟩ := hv.get hg
    refine .inr ⟨u, ?_, by simpa [List.getD_eq_getElem?_getD, hg] using h2⟩
    have : t < us.length := by omega
    rw [Array.getElem?_append, if_pos (by simpa using this)]
    simpa using h1
  · rw [if_neg ht]; exact .inl rfl

def resS (tmps : Array Value) : ResultVar → Sem Value
  | .tmp t => pure (tmps.getD t undef)
  | .cell a t => do loadVar t (← asAddr (tmps.getD a undef))
theorem results_eq (fn : Func) (tmps : Array Value) : results fn tmps = (do
    let vs ← fn.results.mapM (resS tmps)
    pure (if h : vs.size = 1 then vs[0] else .tuple vs) : Sem Value) := by
  have : (fun (x : ResultVar) => match x with
    | .tmp t => (pure (tmps.getD t undef) : Sem Value)
    | .cell a t => do loadVar t (← asAddr (tmps.getD a undef))) = resS tmps := by funext x; cases x <;> rfl
  unfold results
  rw [← this]
  rfl

/-- The results of a function, as the executor reads them. -/
theorem resultsA_sound (hc : CtxOk C) {fn : Func} {S : St} {hl : Base} {ρ : Nat → Option Nat} {nt : Nat} {a : Act} {w : World} {v : AV} (hT : TmR C S.tl hl ρ nt a w) (hH : Hp C hl ρ w)
    (h : resultsA C.P C.G fn S hl = some v) : ∃ u, (results fn a.tmps).run C.P w = .ok u w ∧ VR C ρ (Own C hl ρ) w v u := by
  unfold resultsA at h
  cases hm : fn.results.toList.mapM (resA C.P C.G S hl) with
  | none => simp [hm] at h
  | some l =>
    simp only [hm, Option.map_some, Option.some.injEq] at h
    subst h
    have key : ∀ (rs : List ResultVar) (l : List AV), rs.mapM (resA C.P C.G S hl) = some l → ∃ us, (rs.mapM (resS a.tmps)).run C.P w = .ok us w ∧ VRs C ρ (Own C hl ρ) w l us := by
      intro rs
      induction rs with
      | nil => intro l h; simp at h; subst h; exact ⟨[], by simp, by simp [VRs]⟩
      | cons r rs ih =>
        intro l h
        rw [List.mapM_cons] at h
        simp only [Option.bind_eq_bind, Option.pure_def] at h
        cases hr : resA C.P C.G S hl r with
        | none => simp only [hr, Option.bind_none, reduceCtorEq] at h
        | some x =>
          cases hrs : rs.mapM (resA C.P C.G S hl) with
          | none => simp only [hr, hrs, Option.bind_some, Option.bind_none, reduceCtorEq] at h
          | some xs =>
            simp only [hr, hrs, Option.bind_some, Option.some.injEq] at h
            subst h
            obtain ⟨us, h1, h2⟩ := ih xs hrs
            have hx : ∃ u, (resS a.tmps r).run C.P w = .ok u w ∧ VR C ρ (Own C hl ρ) w x u := by
              cases r with
              | tmp t =>
                simp only [resA] at hr
                simp only [resS]
                rcases hT.tm t with hb | ⟨u, g1, g2⟩
                · rw [hb] at hr; cases hr
                · have : S.tl t = x := by
                    split at hr
                    · cases hr
                    · simpa using hr
                  exact ⟨u, by simp [g1], this ▸ g2⟩
              | cell ad t =>
                simp only [resA] at hr
                simp only [resS]
                rcases hT.tm ad with hb | ⟨u, g1, g2⟩
                · rw [hb] at hr; cases hr
                · cases hs : S.tl ad <;> simp only [hs, reduceCtorEq] at hr
                  rename_i b o
                  rw [hs] at g2
                  obtain ⟨y, k1, k2⟩ := loadA_sound hc hH hr g2
                  simp only [VR] at g2
                  obtain ⟨kk, _, rfl⟩ := g2
                  refine ⟨y, ?_, k2⟩
                  simp only [Instr.loadAt, Instr.sureAddr, Sem.run_bind, Sem.run_pure, Result.andThen_ok] at k1
                  simp [g1, asAddr, k1]
            obtain ⟨u, hu1, hu2⟩ := hx
            refine ⟨u :: us, ?_, by simp only [VRs]; exact ⟨hu2, h2⟩⟩
            rw [List.mapM_cons]
            simp only [Sem.run_bind, hu1, Result.andThen_ok, h1, Sem.run_pure]
    obtain ⟨us, h1, h2⟩ := key fn.results.toList l hm
    refine ⟨oneTup us, ?_, oneOrTup_vr h2⟩
    have hmap : (fn.results.mapM (resS a.tmps)).run C.P w = .ok us.toArray w := by
      rw [← Array.toArray_toList (xs := fn.results), List.mapM_toArray]
      simp only [Sem.run_map, h1, Result.andThen_ok]
    rw [results_eq]
    simp only [Sem.run_bind, hmap, Result.andThen_ok]
    match us with
    | [] => simp [oneTup]
    | [u] => simp [oneTup]
    | _ :: _ :: _ => simp [oneTup]

/-- The contracts hold. -/
def ConsOk (C : Ctx) (Pre : Nat → List D → Prop) (cons : List Con) : Prop := ∀ (i : Nat) (c : Con), cons[i]? = some c → c.Ok C.P C.F C.G Pre i

/-- The part of a call that enters the body. -/
def bodyX (P : PV) (G : Nat → Option (List Value)) (fu : Nat) (call : FuncId → List AV → Base → Nat → X Eff) (f : FuncId) (args : List AV) (base : Base) (nx : Nat) : X Eff :=
  match P.funcs f with
  | some fn =>
    match fn.body with
    | some body =>
      (X.guard (fn.name != "runtime.NumGoroutine" && fn.nfree + fn.params.size = args.length && args.length ≤ fn.ntmps) "call").bind fun _ =>
      (runX P G call base fu [.code body] (enterSt fn args nx)).bind fun S =>
      (X.opt "results" (resultsA P G fn S (S.hl base))).bind fun v => .ret ⟨v, S.ws, S.nx, addRd S.ws S.rd (resRd fn S)⟩
    | none => .fail "call: no body"
  | none => .fail "call: no function"

theorem bodyX_ok (hc : CtxOk C) {fu : Nat} {call : FuncId → List AV → Base → Nat → X Eff} (hcs : CallsOk C Pre call) {f : FuncId} {args : List AV} {nx : Nat} {eff : Eff}
    (h : (bodyX C.P C.G fu call f args base nx).Ev C Pre eff) : WsOk base nx eff ∧ (∀ base' : Base, (∀ b ∈ eff.rd, ∀ y, base b = some y → base' b = some y) → (bodyX C.P C.G fu call f args base' nx).Ev C Pre eff) ∧
    ∀ ρ w us, Hp C base ρ w → (∀ b, nx ≤ b → b < eff.nx → base b = none) → VRs C ρ (Own C base ρ) w args us →
      (∃ fn, C.P.funcs[f]? = some fn ∧ (fn.name == "runtime.NumGoroutine") = false ∧ fn.body.isNone = false) ∧ Calls C.P f us.toArray w (fun e w' => CallR C base ρ eff e w w') := by
  unfold bodyX at h
  simp only [PV.funcs_of] at h
  split at h
  · rename_i fn hfn
    split at h
    · rename_i body hb
      replace h := X.ev_bguard h
      obtain ⟨hg, h⟩ := h
      obtain ⟨S, h1, h⟩ := X.ev_bind h
      obtain ⟨v, hv, h⟩ := X.ev_bopt h
      have := X.ev_ret h
      subst this
      have hg0 := hg
      simp only [Bool.and_eq_true, bne_iff_ne, ne_eq, decide_eq_true_eq] at hg
      obtain ⟨⟨hname, _⟩, hle⟩ := hg
      have hk := runX_keeps hcs h1
      have hws := hk.ws nx ⟨Nat.le_refl _, fun b x hb => by simp [enterSt] at hb⟩
      have hbase : (enterSt fn args nx).hl base = base := by funext b; simp [St.hl, enterSt]
      have hover : S.hl base = over base S.ws := rfl
      refine ⟨⟨hws.1, hws.2⟩, fun base' hb' => ?_, fun ρ w us hH hf hva => ⟨⟨fn, hfn, by simpa using hname, by simp [hb]⟩, ?_⟩⟩
      rotate_left
      refine calls_of_ends hfn hb ?_
      have hT := enter_tm (C := C) (ρ := ρ) (hl := base) (w := w) (fn := fn) (nx := nx) hva hle
      refine runX_sound hc hcs h1 (ρ := ρ) ⟨by rw [hbase]; exact hT, by rw [hbase]; exact hH⟩ (fun b hb1 hb2 => by rw [hbase]; exact hf b hb1 hb2) (fun a' w' ρ' q1 q2 => ?_)
      obtain ⟨u, r1, r2⟩ := resultsA_sound hc q1.tm q1.hp hv
      rw [hbase] at q2
      exact ⟨q1.tm.defers, u, r1, u, ρ', rfl, q1.hp, q2, r2⟩
      · unfold bodyX
        simp only [PV.funcs_of, hfn, hb]
        have hgg : (fn.name != "runtime.NumGoroutine" && decide (fn.nfree + fn.params.size = args.length) && decide (args.length ≤ fn.ntmps)) = true := hg0
        rw [hgg]
        refine X.ev_bind_intro (a := ()) rfl (X.ev_bind_intro (runX_congr hcs h1 (fun b hbm => hb' b (addRd_old hbm))) ?_)
        rw [resultsA_congr hv (hl_congr hb')]
        exact rfl
    · exact (show False from h).elim
  · exact (show False from h).elim

theorem own_lt (hc : CtxOk C) {hl : Base} {ρ : Nat → Option Nat} {w : World} (hH : Hp C hl ρ w) : ∀ k, Own C hl ρ k → k < w.heap.size := by
  rintro k (ho | ⟨b, x, _, _, hk⟩)
  · have := hc.out k ho; have := hH.room; omega
  · exact (hH.own b k hk).2
theorem own_away (hc : CtxOk C) {hl : Base} {ρ : Nat → Option Nat} {w : World} (hH : Hp C hl ρ w) : ∀ g l, C.G g = some l → ¬ Own C hl ρ g := by
  rintro g l hg (ho | ⟨b, x, _, _, hk⟩)
  · exact hc.away g l hg ho
  · have := (hH.own b g hk).1; have := (hc.glob g l hg).1; omega
theorem glob_at (hc : CtxOk C) {hl : Base} {ρ : Nat → Option Nat} {w : World} (hH : Hp C hl ρ w) : GlobOk C.G w := fun g m hg => by
  obtain ⟨h1, e, fr, h2⟩ := hc.glob g m hg
  have := hH.room
  exact ⟨by omega, e, fr, by rw [hH.below.block g h1]; exact h2⟩

theorem callX_ok (hc : CtxOk C) (hcon : ConsOk C Pre cons) {fu : Nat} : ∀ n, CallsOk C Pre (callX C.P C.G cons fu n)
  | 0 => ⟨fun _ _ _ _ _ _ _ _ h => (show False from h).elim, fun _ _ _ _ _ h => (show False from h).elim, fun _ _ _ _ _ _ h => (show False from h).elim⟩
  | n + 1 => by
    have ih := callX_ok hc hcon (fu := fu) n
    have hun : ∀ f args hl nx, callX C.P C.G cons fu (n + 1) f args hl nx = match cons.zipIdx.find? (fun (c, _) => c.f = f) with
        | some (c, i) => (X.guard (match C.P.funcs[f]? with | some fn => fn.name != "runtime.NumGoroutine" && fn.body.isSome | none => false) "call").bind fun _ =>
            if c.rs.all Sh.noSl then
              (X.opt "contract: arguments" (argsH hl c.ps args)).bind fun l => .need (.pre i l) (.ret ⟨oneOrTup (resAV (conT c i l) c.rs 0), [], nx, args.flatMap AV.ownIn⟩)
            else (X.opt "contract: arguments" (argsT c.ps args)).bind fun l => .need (.pre i l) (.ret ⟨oneOrTup (resAV (conT c i l) c.rs 0), [], nx, []⟩)
        | none => bodyX C.P C.G fu (callX C.P C.G cons fu n) f args hl nx := fun _ _ _ _ => rfl
    refine ⟨fun hl nx f args eff ρ w us h hH hf hv => ?_, fun hl nx f args eff h => ?_, fun hl hl' nx f args eff h hin => ?_⟩
    · rw [hun] at h
      split at h
      · rename_i c i hfind
        obtain ⟨hci, hcf⟩ := find_zipIdx hfind
        have hcf' : c.f = f := by simpa using hcf
        replace h := X.ev_bguard h
        obtain ⟨hg, h⟩ := h
        have hfn : ∃ fn, C.P.funcs[f]? = some fn ∧ (fn.name == "runtime.NumGoroutine") = false ∧ fn.body.isNone = false := by
          split at hg
          · rename_i fn hfn
            simp only [Bool.and_eq_true, bne_iff_ne, ne_eq] at hg
            exact ⟨fn, hfn, by simpa using hg.1, by cases hb : fn.body <;> simp_all⟩
          · cases hg
        split at h
        · rename_i hns
          obtain ⟨l, hl', h⟩ := X.ev_bopt h
          obtain ⟨hpre, h⟩ := h
          have := X.ev_ret h
          subst this
          refine ⟨hfn, ?_⟩
          have := (hcon i c hci).1 w (fun _ => False) (T.evals C.F C.η l) us (glob_at hc hH) (fun _ h => h.elim) (fun _ _ _ h => h) (argsH_reads hH hl' hv) hpre
          rw [hcf'] at this
          refine this.mono ?_
          rintro e w' ⟨vs, rfl, hb, hr⟩
          obtain ⟨q1, q2⟩ := below_hp hH hb
          refine ⟨oneTup vs, ρ, rfl, by rw [over_nil]; exact q1, by rw [over_nil]; exact q2, ?_⟩
          rw [over_nil]
          exact oneOrTup_vr (resAV_vrs (hr.of_noSl hns _) (fun k => by rw [Nat.zero_add]; exact conT_eval (fun g hg => (hcon i c hci).2 g hg _ hpre) k))
        · obtain ⟨l, hl', h⟩ := X.ev_bopt h
          obtain ⟨hpre, h⟩ := h
          have := X.ev_ret h
          subst this
          refine ⟨hfn, ?_⟩
          have := (hcon i c hci).1 w (Own C hl ρ) (T.evals C.F C.η l) us (glob_at hc hH) (own_lt hc hH) (own_away hc hH) (argsT_reads hl' hv) hpre
          rw [hcf'] at this
          refine this.mono ?_
          rintro e w' ⟨vs, rfl, hb, hr⟩
          obtain ⟨q1, q2⟩ := below_hp hH hb
          refine ⟨oneTup vs, ρ, rfl, by rw [over_nil]; exact q1, by rw [over_nil]; exact q2, ?_⟩
          rw [over_nil]
          exact oneOrTup_vr (resAV_vrs hr (fun k => by rw [Nat.zero_add]; exact conT_eval (fun g hg => (hcon i c hci).2 g hg _ hpre) k))
      · exact (bodyX_ok hc ih h).2.2 ρ w us hH hf hv
    · rw [hun] at h
      split at h
      · replace h := (X.ev_bguard h).2
        split at h
        · obtain ⟨l, hl', h⟩ := X.ev_bopt h
          have := X.ev_ret h.2
          subst this
          exact ⟨Nat.le_refl _, fun b x hb => by simp at hb⟩
        · obtain ⟨l, hl', h⟩ := X.ev_bopt h
          have := X.ev_ret h.2
          subst this
          exact wsOk_nil _ _
      · exact (bodyX_ok hc ih h).1
    · rw [hun] at h ⊢
      split at h
      · rename_i c i hfind
        obtain ⟨hg, h1⟩ := X.ev_bguard h
        split at h1
        · rename_i hns
          obtain ⟨l, hargs, h2⟩ := X.ev_bopt h1
          have := X.ev_ret h2.2
          have hin' := argsH_congr (hl' := hl') (by rw [this] at hin; exact hin) hargs
          rw [hg, if_pos hns]
          refine X.ev_bind_intro (a := ()) rfl ?_
          rw [hin']
          exact h2
        · rename_i hns
          rw [if_neg hns] at h ⊢
          exact h
      · exact (bodyX_ok hc ih h).2.1 hl' hin
end
end Go.Sx
end
