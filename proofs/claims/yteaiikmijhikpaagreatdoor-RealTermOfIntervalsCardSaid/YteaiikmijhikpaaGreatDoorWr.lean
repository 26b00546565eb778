/- That a law whose contract says true has the form that its row states, for arguments of integers, bools, strings, structs and arrays. -/
import Derived.Test.YteaiikmijhikpaaGreatDoorSxC
import Derived.LaidLaws
import Derived.Below
import Derived.Carry
import Derived.ProofKit
import Derived.LaidMore
import Derived.OpenShut
set_option linter.all false
section
namespace Go.Sx
open Go
open Go.RowKit (Below)
section
variable (P : Program)
def rowFs (g : TypeId → Option (List Ty)) : List Field → Nat → Option (List Ty)
  | [], _ => some []
  | f :: fs, acc => match g f.type with
    | some r => if f.offset = acc ∧ r.length = P.cellsOf f.type then (rowFs g fs (acc + r.length)).map (r ++ ·) else none
    | none => none
/-- The row of atoms that a type's cells are. -/
def rowOf : Nat → TypeId → Option (List Ty)
  | 0, _ => none
  | f + 1, t => match P.underlying t with
    | some .bool => some [.bool]
    | some (.int k) => some [.int k]
    | some .string => some [.str]
    | some (.struct fs) => match rowFs P (rowOf f) fs.toList 0 with
      | some r => if r.length = P.cellsOf t then some r else none
      | none => none
    | some (.array n e) => match rowOf f e with
      | some r => if r.length = P.cellsOf e ∧ n * P.cellsOf e = P.cellsOf t then some (List.replicate n r).flatten else none
      | none => none
    | _ => none
def shOf (t : TypeId) : Option Sh := match P.underlying t with
  | some (.struct _) | some (.array _ _) => (rowOf P 20 t).map .agg
  | _ => match rowOf P 20 t with
    | some [x] => some (.at x)
    | _ => none
def shsOf : List TypeId → Option (List Sh)
  | [] => some []
  | t :: l => match shOf P t, shsOf l with
    | some x, some xs => some (x :: xs)
    | _, _ => none
end
mutual
def flatD {H : Type} : DataW H → List D
  | .lit (.int _ n) => [.int n]
  | .lit (.bool b) => [.bool b]
  | .lit (.string s) => [.str ⟨s.toArray⟩]
  | .agg l => flatDs l
  | _ => []
def flatDs {H : Type} : List (DataW H) → List D
  | [] => []
  | d :: l => flatD d ++ flatDs l
end
section
variable {P : Program} {w : World} {O : Nat → Prop}
theorem ReadsL.app : ∀ {r1 r2 : List Ty} {a b : List D} {c1 c2 : List Value}, ReadsL w O r1 a c1 → a.length = r1.length → ReadsL w O r2 b c2 → ReadsL w O (r1 ++ r2) (a ++ b) (c1 ++ c2)
  | [], r2, a, b, c1, c2, h, hl, h2 => by
    have : a = [] := List.eq_nil_of_length_eq_zero hl
    simp only [ReadsL] at h
    subst this h
    simpa using h2
  | t :: r1, r2, a, b, c1, c2, h, hl, h2 => by
    obtain ⟨v, vs, rfl, h1, h3⟩ := h
    cases a with
    | nil => simp at hl
    | cons x a =>
      exact ⟨v, vs ++ c2, rfl, h1, ReadsL.app h3 (by simpa using hl) h2⟩
theorem ReadsL.len : ∀ {r : List Ty} {a : List D} {c : List Value}, ReadsL w O r a c → c.length = r.length
  | [], _, _, h => by simp only [ReadsL] at h; simp [h]
  | _ :: _, _, _, ⟨v, vs, h, _, h2⟩ => by subst h; simp [ReadsL.len h2]
variable {H : Type} {enc : TypeId × Value → H} {base : Nat} {sp : Nat → Bool} {held : Bool}

theorem flatDs_append (a b : List (DataW H)) : flatDs (a ++ b) = flatDs a ++ flatDs b := by
  induction a with
  | nil => rfl
  | cons x a ih => simp [flatDs, ih]

def RowR (w : World) (r : List Ty) (d : DataW H) (cs : List Value) : Prop := ReadsL w (fun _ => False) r (flatD d) cs ∧ (flatD d).length = r.length

theorem rowFs_reads {g : TypeId → Option (List Ty)} {fuel : Nat} (hg : ∀ t r cs x, g t = some r → DataW.trod enc P w base sp held fuel t cs = some x → RowR w r x.1 cs) {cs : List Value} :
    ∀ (fs : List Field) (xs : List (DataW H × List MemPlace)) (acc : Nat) (r : List Ty), rowFs P g fs acc = some r → xs.length = fs.length →
      (∀ (i : Nat) (f : Field), fs[i]? = some f → DataW.trod enc P w base sp held fuel f.type ((cs.drop f.offset).take (P.cellsOf f.type)) = xs[i]?) →
      ReadsL w (fun _ => False) r (flatDs (xs.map (·.1))) ((cs.drop acc).take r.length) ∧ (flatDs (xs.map (·.1))).length = r.length
  | [], xs, acc, r, h, hl, _ => by
    simp only [rowFs, Option.some.injEq] at h
    subst h
    have : xs = [] := List.eq_nil_of_length_eq_zero hl
    subst this
    simp [ReadsL, flatDs]
  | f :: fs, xs, acc, r, h, hl, hx => by
    simp only [rowFs] at h
    split at h
    · rename_i r0 hr0
      split at h
      · rename_i hc
        obtain ⟨hoff, hlen⟩ := hc
        obtain ⟨r1, hr1, rfl⟩ := Option.map_eq_some_iff.1 h
        cases xs with
        | nil => simp at hl
        | cons x xs =>
          have h0 := hx 0 f rfl
          rw [hoff, ← hlen] at h0
          obtain ⟨a1, a2⟩ := hg _ _ _ _ hr0 h0
          obtain ⟨b1, b2⟩ := rowFs_reads hg fs xs (acc + r0.length) r1 hr1 (by simpa using hl) (fun i f' hf => by simpa using hx (i + 1) f' (by simpa using hf))
          simp only [List.map_cons, flatDs, List.length_append]
          refine ⟨?_, by omega⟩
          have hcl := a1.len
          have e : (cs.drop acc).take (r0.length + r1.length) = (cs.drop acc).take r0.length ++ (cs.drop (acc + r0.length)).take r1.length := by
            rw [List.take_add, List.drop_drop]
          rw [e]
          exact ReadsL.app a1 a2 b1
      · cases h
    · cases h

theorem rowArr_reads {r : List Ty} {c : Nat} (hc : r.length = c) {cs : List Value} : ∀ (n k : Nat) (xs : List (DataW H × List MemPlace)), xs.length = n →
    (∀ i, i < n → ∀ x, xs[i]? = some x → RowR w r x.1 ((cs.drop ((k + i) * c)).take c)) →
    ReadsL w (fun _ => False) (List.replicate n r).flatten (flatDs (xs.map (·.1))) ((cs.drop (k * c)).take (n * c)) ∧ (flatDs (xs.map (·.1))).length = n * c
  | 0, k, xs, hl, _ => by
    have : xs = [] := List.eq_nil_of_length_eq_zero hl
    subst this
    simp [ReadsL, flatDs]
  | n + 1, k, xs, hl, hx => by
    cases xs with
    | nil => simp at hl
    | cons x xs =>
      obtain ⟨a1, a2⟩ := hx 0 (by omega) x rfl
      obtain ⟨b1, b2⟩ := rowArr_reads hc n (k + 1) xs (by simpa using hl) (fun i hi y hy => by
        have := hx (i + 1) (by omega) y (by simpa using hy)
        rwa [show k + (i + 1) = k + 1 + i from by omega] at this)
      simp only [List.map_cons, flatDs, List.length_append, List.replicate_succ, List.flatten_cons, Nat.succ_mul]
      refine ⟨?_, by omega⟩
      have e : (cs.drop (k * c)).take (n * c + c) = (cs.drop (k * c)).take c ++ (cs.drop ((k + 1) * c)).take (n * c) := by
        rw [Nat.add_comm (n * c) c, List.take_add, List.drop_drop, Nat.succ_mul]
      rw [e]
      rw [Nat.add_zero] at a1
      exact ReadsL.app a1 a2 b1

theorem trod_row : ∀ (n fuel : Nat) (t : TypeId) (r : List Ty) (cs : List Value) (x : DataW H × List MemPlace), rowOf P n t = some r → DataW.trod enc P w base sp held fuel t cs = some x → RowR w r x.1 cs
  | 0, _, _, _, _, _, h, _ => by simp [rowOf] at h
  | n + 1, fuel, t, r, cs, x, h, hx => by
    unfold rowOf at h
    split at h
    · rename_i hu
      simp only [Option.some.injEq] at h
      subst h
      obtain ⟨b, rfl, rfl⟩ := DataW.trod_bool hu hx
      exact ⟨⟨_, [], rfl, by simp [Reads, flatD, D.toBool], rfl⟩, rfl⟩
    · rename_i k hu
      simp only [Option.some.injEq] at h
      subst h
      obtain ⟨b, rfl, rfl, _⟩ := DataW.trod_int hu hx
      exact ⟨⟨_, [], rfl, by simp [Reads, flatD, D.toInt], rfl⟩, rfl⟩
    · rename_i hu
      simp only [Option.some.injEq] at h
      subst h
      obtain ⟨b, rfl, rfl, _⟩ := DataW.trod_string hu hx
      exact ⟨⟨_, [], rfl, by simp [Reads, flatD, D.toStr], rfl⟩, rfl⟩
    · rename_i fs hu
      split at h
      · rename_i r' hr
        split at h
        · rename_i hlen
          simp only [Option.some.injEq] at h
          subst h
          obtain ⟨xs, m, rfl, rfl, hl, hxl, hf⟩ := DataW.trod_struct hu hx
          obtain ⟨a1, a2⟩ := rowFs_reads (enc := enc) (base := base) (sp := sp) (held := held) (fuel := m) (fun t r cs x h1 h2 => trod_row n m t r cs x h1 h2) fs.toList xs 0 r' hr (by simpa using hxl) (fun i f hi => hf i f (by simpa using hi))
          rw [List.drop_zero, hlen, ← hl, List.take_length] at a1
          exact ⟨by simpa only [flatD] using a1, by simpa only [flatD] using a2⟩
        · cases h
      · cases h
    · rename_i m e hu
      split at h
      · rename_i r' hr
        split at h
        · rename_i hc
          simp only [Option.some.injEq] at h
          subst h
          obtain ⟨xs, q, rfl, rfl, hl, hxl, hf⟩ := DataW.trod_array hu hx
          obtain ⟨a1, a2⟩ := rowArr_reads (w := w) (cs := cs) hc.1 m 0 xs hxl (fun i hi y hy => by
            have := hf i hi
            rw [hy] at this
            rw [Nat.zero_add]
            exact trod_row n q e r' _ y hr this)
          rw [Nat.zero_mul, List.drop_zero, hc.2, ← hl, List.take_length] at a1
          refine ⟨by simpa only [flatD] using a1, ?_⟩
          simp only [flatD]
          rw [a2, List.length_flatten]
          simp [hc.1]
        · cases h
      · cases h
    · cases h
end
end Go.Sx
end
section
namespace Go.Sx
open Go
open Go.RowKit (Below)
section
variable {P : Program} {w : World} {O : Nat → Prop} {H : Type} {enc : TypeId × Value → H} {base : Nat} {sp : Nat → Bool} {held : Bool}

theorem ArgsR.cut {sh : List Sh} : ∀ {ds : List D} {us : List Value} (rest : List D), ArgsR w O sh ds us → (sh.map Sh.size).sum = ds.length → ArgsR w O sh (ds ++ rest) us := by
  induction sh with
  | nil => intro ds us rest h _; exact h
  | cons s sh ih =>
    intro ds us rest h hl
    cases s with
    | «at» t =>
      obtain ⟨u, us', rfl, h1, h2⟩ := h
      cases ds with
      | nil => simp [Sh.size] at hl
      | cons d ds => exact ⟨u, us', rfl, h1, ih rest h2 (by simp [Sh.size] at hl; omega)⟩
    | agg l =>
      obtain ⟨x, us', rfl, h1, h2⟩ := h
      simp only [List.map_cons, Sh.size, List.sum_cons] at hl
      refine ⟨x, us', rfl, ?_, ?_⟩
      · have : ∀ (l : List Ty) (ds : List D) (vs : List Value), l.length ≤ ds.length → ReadsL w O l ds vs → ReadsL w O l (ds ++ rest) vs := by
          intro l
          induction l with
          | nil => intro ds vs _ h; exact h
          | cons t l ihl =>
            intro ds vs hle h
            obtain ⟨v, vs', rfl, q1, q2⟩ := h
            cases ds with
            | nil => simp at hle
            | cons d ds => exact ⟨v, vs', rfl, q1, ihl _ _ (by simpa using hle) q2⟩
        exact this _ _ _ (by omega) h1
      · rw [List.drop_append_of_le_length (by omega)]
        exact ih rest h2 (by simp; omega)

theorem shOf_reads {t : TypeId} {sh : Sh} {u : Value} {d : DataW H} {ps : List MemPlace} {r : Reach} {b : Nat} (h : shOf P t = some sh) (ht : DataW.Trod enc P w base sp held t u d ps) (hok : Value.okWide P w r b t u) :
    (match sh with
      | .at x => Reads w (fun _ => False) x ((flatD d).headD default) u
      | .agg l => ∃ x, u = .agg x ∧ ReadsL w (fun _ => False) l (flatD d) x.toList) ∧ (flatD d).length = sh.size := by
  obtain ⟨fuel, ht⟩ := ht
  unfold shOf at h
  have agg : ∀ {l : List Ty}, (∃ cs, u = .agg cs ∧ cs.size = P.cellsOf t ∧ Row.okWide P w r b t cs) → rowOf P 20 t = some l → (∃ x, u = .agg x ∧ ReadsL w (fun _ => False) l (flatD d) x.toList) ∧ (flatD d).length = l.length := by
    rintro l ⟨cs, rfl, _, _⟩ hl
    have := trod_row 20 fuel t l _ _ hl ht
    exact ⟨⟨cs, rfl, this.1⟩, this.2⟩
  split at h
  · rename_i fs hu
    obtain ⟨l, hl, rfl⟩ := Option.map_eq_some_iff.1 h
    unfold Value.okWide at hok
    rw [hu] at hok
    exact agg hok hl
  · rename_i n e hu
    obtain ⟨l, hl, rfl⟩ := Option.map_eq_some_iff.1 h
    unfold Value.okWide at hok
    rw [hu] at hok
    exact agg hok hl
  · rename_i hn1 hn2
    split at h
    · rename_i x hx
      simp only [Option.some.injEq] at h
      subst h
      have hr := trod_row 20 fuel t [x] _ _ hx ht
      have hcell : u.cells.toList = [u] := by
        cases hu : u with
        | agg cs =>
          exfalso
          subst hu
          unfold Value.okWide at hok
          split at hok
          · rename_i fs hs; exact hn1 _ hs
          · rename_i fs hs; exact hn2 _ _ hs
          · unfold Cell.okWide at hok
            split at hok <;> first | (rename_i h1 h2; cases h2; done) | (rename_i h1; simp at h1; done) | skip
            all_goals (unfold Cell.ok at hok; split at hok <;> simp_all)
        | _ => rfl
      rw [hcell] at hr
      obtain ⟨⟨v, vs, hv, h1, h2⟩, hlen⟩ := hr
      simp only [ReadsL] at h2
      subst h2
      simp only [List.cons.injEq, and_true] at hv
      subst hv
      exact ⟨h1, hlen⟩
    · cases h

theorem trodAll_args {r : Reach} {b : Nat} : ∀ {ts : List TypeId} {us : List Value} {ds : List (DataW H)} {ps : List MemPlace} {sh : List Sh}, shsOf P ts = some sh → DataW.TrodAll enc P w base sp held ts us ds ps →
    (∀ (j : Nat) t v, ts[j]? = some t → us[j]? = some v → Value.okWide P w r b t v) → ArgsR w (fun _ => False) sh (flatDs ds) us ∧ (flatDs ds).length = (sh.map Sh.size).sum
  | [], us, ds, ps, sh, h, ht, _ => by
    simp only [shsOf, Option.some.injEq] at h
    subst h
    cases us <;> cases ds <;> simp only [DataW.TrodAll] at ht
    exact ⟨rfl, rfl⟩
  | t :: ts, us, ds, ps, sh, h, ht, hok => by
    simp only [shsOf] at h
    split at h
    · rename_i x xs hx hxs
      simp only [Option.some.injEq] at h
      subst h
      cases us with
      | nil => simp only [DataW.TrodAll] at ht
      | cons u us =>
        cases ds with
        | nil => simp only [DataW.TrodAll] at ht
        | cons d ds =>
          obtain ⟨p, q, h1, h2, _⟩ := ht
          obtain ⟨a1, a2⟩ := shOf_reads hx h1 (hok 0 t u rfl rfl)
          obtain ⟨b1, b2⟩ := trodAll_args hxs h2 (fun j t' v hj hv => hok (j + 1) t' v (by simpa using hj) (by simpa using hv))
          simp only [flatDs, List.length_append, List.map_cons, List.sum_cons]
          refine ⟨?_, by omega⟩
          cases x with
          | «at» y =>
            simp only at a1
            simp only [Sh.size] at a2
            match hd : flatD d, a2 with
            | [z], _ =>
              rw [hd] at a1
              exact ⟨u, us, rfl, a1, b1⟩
          | agg l =>
            simp only [Sh.size] at a2
            obtain ⟨y, rfl, hy⟩ := a1
            refine ⟨y, us, rfl, ?_, ?_⟩
            · have := ReadsL.app hy a2 (r2 := []) (b := flatDs ds) (c2 := []) rfl
              simpa using this
            · rw [List.drop_left' a2]; exact b1
    · cases h

/-- An argument reads behind the call as it did. -/
theorem trodAll_stays (hl : laidOutB P = true) {W W' : World} (hb : Below W.heap.size W W') : ∀ {ts : List TypeId} {vs : List Value} {ds : List (DataW H)} {ps : List MemPlace},
    (∀ t ∈ ts, P.readableRec t = true ∧ t < P.types.size) → DataW.TrodAll enc P W 0 (fun _ => true) true ts vs ds ps → (∀ x ∈ ps, x.block < W.heap.size) →
    DataW.TrodAll enc P W' 0 (fun b => decide (b < W.heap.size)) true ts vs ds ps
  | [], vs, ds, ps, _, h, _ => by cases vs <;> cases ds <;> simp_all [DataW.TrodAll]
  | t :: ts, vs, ds, ps, hr, h, hlt => by
    cases vs with
    | nil => simp only [DataW.TrodAll] at h
    | cons v vs =>
      cases ds with
      | nil => simp only [DataW.TrodAll] at h
      | cons d ds =>
        obtain ⟨p, q, h1, h2, rfl⟩ := h
        refine ⟨p, q, Below.trod hl (hr t List.mem_cons_self).1 (hr t List.mem_cons_self).2 h1 hb (fun x hx => hlt x (List.mem_append_left _ hx)),
          trodAll_stays hl hb (fun t ht => hr t (List.mem_cons_of_mem _ ht)) h2 (fun x hx => hlt x (List.mem_append_right _ hx)), rfl⟩

/-- **What a law that answers true leaves.** -/
theorem law_post {f : Func} {s : ChangeSpec} {apart : Bool} {W W' : World} {args : Array Value} {ds : List (DataW H)} {before : List MemPlace} {tb : TypeId}
    (hW : DataW.Whole enc P f.params.toList s.vars apart W args.toList ds [] before) (hv : s.vars = []) (hfn : s.fn H ds = { results := [.lit (.bool true)], args := ds })
    (hres : f.resultTypes = #[tb]) (htb : P.underlying tb = some .bool) (hl : laidOutB P = true) (hr : ∀ t ∈ f.params.toList, P.readableRec t = true ∧ t < P.types.size) (hb : Below W.heap.size W W') :
    s.post enc P f apart true false false W args (.bool true) W' := by
  have hW' := hW
  obtain ⟨p, q, hA, hV, rfl, hfz, hnd⟩ := hW
  rw [hv] at hV
  cases q with
  | cons x q => simp [DataW.TrodVars] at hV
  | nil =>
    refine ⟨ds, [], p ++ [], [], p, [], hW', ?_, ?_, ?_, hb.frame _, fun h => by cases h⟩
    · rw [List.append_nil, hfn, hres]
      exact ChangeShapes.trodAll_mk1 (RowKit.shut_bool htb _)
    · rw [List.append_nil, hfn]
      exact trodAll_stays hl hb hr hA (fun x hx => hW'.lt x (by simpa using hx))
    · rw [List.append_nil, hfn, hv]
      rfl
end
end Go.Sx
end
section
namespace Go.Sx
open Go
open Go.RowKit (Below)
/-- The values that atoms are. -/
def valOf : Ty → D → Value
  | .int k, d => .int k d.toInt
  | .bool, d => .bool d.toBool
  | .str, d => .string d.toStr
  | .sl _, _ => .slice none 0 0
def valsOf : List Ty → List D → List Value
  | [], _ => []
  | t :: ts, ds => valOf t (ds.headD default) :: valsOf ts ds.tail
section
variable {P : Program} {w : World} {O : Nat → Prop} {H : Type} {enc : TypeId × Value → H} {base : Nat} {sp : Nat → Bool} {held : Bool}
theorem ReadsL.vals : ∀ {r : List Ty} {ds : List D} {vs : List Value}, r.all Ty.noSl = true → ReadsL w O r ds vs → vs = valsOf r ds
  | [], _, _, _, h => by simpa only [ReadsL, valsOf] using h
  | t :: r, ds, vs, hn, ⟨v, vs', h1, h2, h3⟩ => by
    simp only [List.all_cons, Bool.and_eq_true] at hn
    subst h1
    rw [ReadsL.vals hn.2 h3]
    cases t <;> simp_all [Reads, valsOf, valOf, Ty.noSl]

/-- A variable that reads as a datum of atoms holds the atoms. -/
theorem glob_laid {n : String} {g : Nat} {t : TypeId} {cs : Array Value} {fuel : Nat} {d : DataW H} {p : List MemPlace} {row : List Ty} {l : List Value} (hg : P.globalNamed n = some g) (hv : w.var? P n = some cs)
    (hd : DataW.trod enc P w base sp held fuel t cs.toList = some (d, p)) (hrow : rowOf P 20 t = some row) (hn : row.all Ty.noSl = true) (hl : valsOf row (flatD d) = l) :
    g < w.heap.size ∧ ∃ e fr, w.heap[g]? = some (.cells l.toArray e fr) := by
  have h1 := (trod_row 20 fuel t row _ _ hrow hd).1.vals hn
  rw [hl] at h1
  simp only [World.var?, hg, Option.bind_some] at hv
  split at hv
  · rename_i c e fr hh
    simp only [Option.some.injEq] at hv
    subst hv
    have hlt : g < w.heap.size := by
      rcases Nat.lt_or_ge g w.heap.size with h | h
      · exact h
      · rw [Array.getElem?_eq_none h] at hh; cases hh
    refine ⟨hlt, e, fr, ?_⟩
    rw [hh, ← h1]
  · cases hv

/-- **A law that answers true, seen from its caller.** -/
theorem law_calls {G : Nat → Option (List Value)} {s : Spec} (hs : s.Runs P G) {fn : Func} {spec : ChangeSpec} {apart : Bool} {W : World} {args : Array Value} {ds gs : List (DataW H)} {before : List MemPlace} {tb : TypeId} {r : Reach} {b : Nat}
    (hsh : shsOf P fn.params.toList = some s.con.ps) (hrs : s.con.rs = [.at .bool]) (hfn : ∀ ds, s.fn ds = [.bool true]) (hpre : ∀ ds, s.pre ds)
    (hval : ∀ (j : Nat) t v, fn.params[j]? = some t → args[j]? = some v → Value.okWide P W r b t v)
    (hW : DataW.Whole enc P fn.params.toList spec.vars apart W args.toList ds gs before) (hv : spec.vars = []) (hsp : spec.fn H ds = { results := [.lit (.bool true)], args := ds })
    (hres : fn.resultTypes = #[tb]) (htb : P.underlying tb = some .bool) (hl : laidOutB P = true) (hr : (fn.params.toList.all fun t => P.readableRec t && decide (t < P.types.size)) = true) (hG : GlobOk G W) :
    Calls P s.con.f args W fun e W' => ∃ v, e = .returned v ∧ spec.post enc P fn apart true false false W args v W' := by
  have hW' := hW
  obtain ⟨p, q, hA, hV, rfl, hfz, hnd⟩ := hW'
  have hgs : gs = [] := by
    rw [hv] at hV
    cases gs with
    | nil => rfl
    | cons x gs => simp [DataW.TrodVars] at hV
  subst hgs
  obtain ⟨ha, _⟩ := trodAll_args hsh hA (fun j t v hj hv => hval j t v (by simpa using hj) (by simpa using hv))
  have := hs W (fun _ => False) (flatDs ds) args.toList hG (fun _ h => h.elim) (fun _ _ _ h => h) ha (hpre _)
  refine (show Calls P s.con.f args W _ from this).mono ?_
  rintro e W' ⟨vs, rfl, hb, hrr⟩
  rw [hrs, hfn] at hrr
  obtain ⟨v, vs', rfl, h1, h2⟩ := hrr
  simp only [ArgsR] at h2
  subst h2
  simp only [Reads, List.headD_cons, D.toBool] at h1
  subst h1
  exact ⟨_, rfl, law_post hW hv hsp hres htb hl (fun t ht => by simpa using List.all_eq_true.1 hr t ht) hb⟩
theorem trodAll_length : ∀ {ts : List TypeId} {us : List Value} {ds : List (DataW H)} {ps : List MemPlace}, DataW.TrodAll enc P w base sp held ts us ds ps → ts.length = ds.length
  | [], [], [], _, _ => rfl
  | _ :: _, _ :: _, _ :: _, _, h => by
    obtain ⟨_, _, _, h2, _⟩ := h
    simp [trodAll_length h2]
  | [], _ :: _, _, _, h => by cases (by simpa only [DataW.TrodAll] using h : False)
  | [], [], _ :: _, _, h => by cases (by simpa only [DataW.TrodAll] using h : False)
  | _ :: _, [], _, _, h => by cases (by simpa only [DataW.TrodAll] using h : False)
  | _ :: _, _ :: _, [], _, h => by cases (by simpa only [DataW.TrodAll] using h : False)
theorem trodAll_len {ts : List TypeId} {us : List Value} {ds gs : List (DataW H)} {ps : List MemPlace} {vars : List String} {apart : Bool} (h : DataW.Whole enc P ts vars apart w us ds gs ps) : ts.length = ds.length := by
  obtain ⟨p, q, hA, _⟩ := h
  exact trodAll_length hA
end
end Go.Sx
end
