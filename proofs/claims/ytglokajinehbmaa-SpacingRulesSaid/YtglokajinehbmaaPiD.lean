/- Typed data in the machine's memory, an evaluator of loaded code over it, and its proof, part 4. -/
import Derived.Test.YtglokajinehbmaaPiC
import GoSem.ClaimChange
import Derived.WideShapes
import Derived.IntWalk

section
namespace Go.Pi
open Go.RowKit
set_option linter.unusedSimpArgs false
set_option linter.unusedVariables false

/-- May an argument be of this type? -/
def rowFields (P : Program) (n : Nat) (f : TypeId → Bool) (total : Nat) : Nat → List Field → Bool
  | o, [] => o == total
  | o, fd :: r => fd.offset == o && f fd.type && (schOf P n fd.type).size == P.cellsOf fd.type && rowFields P n f total (o + P.cellsOf fd.type) r

def tyOk (P : Program) : Nat → TypeId → Bool
  | 0, _ => false
  | n + 1, t => match P.underlying t with
    | some .bool => true
    | some (.int _) => true
    | some .string => true
    | some (.slice e) => tyOk P n e && (schOf P n e).size == P.cellsOf e && decide (0 < P.cellsOf e)
    | some (.array m e) => tyOk P n e && (schOf P n e).size == P.cellsOf e && P.cellsOf t == m * P.cellsOf e
    | some (.struct fs) => rowFields P n (tyOk P n) (P.cellsOf t) 0 fs.toList
    | _ => false

theorem mapM_get {α β : Type} {f : α → Option β} : ∀ {l : List α} {ys : List β}, l.mapM f = some ys → ∀ a ∈ l, ∃ b, f a = some b
  | [], _, _, a, ha => by simp at ha
  | x :: r, ys, h, a, ha => by
    rw [List.mapM_cons] at h
    cases hx : f x with
    | none => simp [hx] at h
    | some b =>
      cases hr : r.mapM f with
      | none => simp [hx, hr] at h
      | some zs =>
        rcases List.mem_cons.1 ha with rfl | ha
        · exact ⟨b, hx⟩
        · exact mapM_get hr a ha

theorem mapM_at {α β : Type} {f : α → Option β} : ∀ {l : List α} {ys : List β}, l.mapM f = some ys → ys.length = l.length ∧ ∀ (i : Nat) (a : α), l[i]? = some a → ∃ b, f a = some b ∧ ys[i]? = some b
  | [], ys, h => by
    simp at h
    subst h
    exact ⟨rfl, fun i a hi => by simp at hi⟩
  | x :: r, ys, h => by
    rw [List.mapM_cons] at h
    cases hx : f x with
    | none => simp [hx] at h
    | some b =>
      cases hr : r.mapM f with
      | none => simp [hx, hr] at h
      | some zs =>
        simp [hx, hr] at h
        subst h
        obtain ⟨h1, h2⟩ := mapM_at hr
        refine ⟨by simp [h1], fun i a hi => ?_⟩
        cases i with
        | zero => simp at hi; subst hi; exact ⟨b, hx, rfl⟩
        | succ i => exact h2 i a (by simpa using hi)

/-- All that lies in memory. -/
def allCells (w : World) : Cells := fun b _ => b < w.heap.size

/-- The numbers are in their ranges. -/
def Sch.rng : (s : Sch) → s.D → Prop
  | .unit, _ => True
  | .int k, n => (Lit.int k n).wf = true
  | .bool, _ => True
  | .str, b => b.size ≤ maxLen
  | .sl s, xs => xs.length ≤ maxLen ∧ ∀ x ∈ xs, s.rng x
  | .pair a b, x => a.rng x.1 ∧ b.rng x.2

def DRR (w : World) (s : Sch) (x : s.D) (vs : List Value) : Prop := DR (allCells w) w s x vs ∧ s.rng x

theorem pick_all {α : Type} {Q : Nat → α → Prop} : ∀ (n : Nat), (∀ i, i < n → ∃ x, Q i x) → ∃ xs : List α, xs.length = n ∧ ∀ (i : Nat) (x : α), xs[i]? = some x → Q i x
  | 0, _ => ⟨[], rfl, fun i x h => by simp at h⟩
  | n + 1, h => by
    obtain ⟨xs, h1, h2⟩ := pick_all n fun i hi => h i (by omega)
    obtain ⟨y, hy⟩ := h n (by omega)
    refine ⟨xs ++ [y], by simp [h1], fun i x hx => ?_⟩
    by_cases hi : i < n
    · rw [List.getElem?_append_left (by omega)] at hx
      exact h2 i x hx
    · rw [List.getElem?_append_right (by omega)] at hx
      have : i - xs.length = 0 := by
        rcases Nat.eq_zero_or_pos (i - xs.length) with e | e
        · exact e
        · rw [List.getElem?_eq_none (by simp; omega)] at hx; cases hx
      rw [this] at hx
      simp at hx
      subst hx
      rw [show i = n by omega]
      exact hy

theorem prods_cons {w : World} {s : Sch} {r : List Sch} {l m : List Value} (h1 : ∃ x, DRR w s x l) (h2 : ∃ x, DRR w (prods r) x m) : ∃ x, DRR w (prods (s :: r)) x (l ++ m) := by
  obtain ⟨x, hx, hxr⟩ := h1
  obtain ⟨y, hy, hyr⟩ := h2
  cases r with
  | nil =>
    have : m = [] := hy
    subst this
    exact ⟨x, by simpa using hx, hxr⟩
  | cons s' r => exact ⟨(x, y), ⟨l, m, rfl, hx, hy⟩, hxr, hyr⟩

section
variable {P : Program} {W : World} {H : Type} {enc : TypeId × Value → H} {sp : Nat → Bool} {held : Bool}

theorem fields_dr {n : Nat} {f : TypeId → Bool} {total : Nat} {cs : List Value} (hl : cs.length = total) : ∀ {fs : List Field} {o : Nat}, rowFields P n f total o fs = true → o ≤ total →
    (∀ fd ∈ fs, f fd.type = true → ∃ x, DRR W (schOf P n fd.type) x ((cs.drop fd.offset).take (P.cellsOf fd.type))) → ∃ x, DRR W (prods (fs.map fun fd => schOf P n fd.type)) x (cs.drop o)
  | [], o, hok, ho, _ => by
    simp [rowFields] at hok
    subst hok
    refine ⟨(), ?_, trivial⟩
    show cs.drop o = []
    rw [← hl]; simp
  | fd :: r, o, hok, ho, h => by
    simp only [rowFields, Bool.and_eq_true, beq_iff_eq] at hok
    obtain ⟨⟨⟨h1, h2⟩, h3⟩, h4⟩ := hok
    obtain ⟨x, hx⟩ := h fd (by simp) h2
    have hlen := hx.1.length
    rw [h3, h1] at hlen
    have hle : o + P.cellsOf fd.type ≤ total := by
      simp [hl] at hlen
      omega
    obtain ⟨y, hy⟩ := fields_dr hl h4 hle fun g hg => h g (.tail _ hg)
    have := prods_cons ⟨x, hx⟩ ⟨y, hy⟩
    rw [h1] at this
    have e : (cs.drop o).take (P.cellsOf fd.type) ++ cs.drop (o + P.cellsOf fd.type) = cs.drop o := by
      rw [← List.drop_drop, List.take_append_drop]
    rw [e] at this
    exact this

theorem array_dr {s : Sch} {k : Nat} {cs : List Value} (hs : s.size = k) : ∀ {m i : Nat}, cs.length = (i + m) * k → (∀ j, i ≤ j → j < i + m → ∃ x, DRR W s x ((cs.drop (j * k)).take k)) →
    ∃ x, DRR W (prods (List.replicate m s)) x (cs.drop (i * k))
  | 0, i, hl, _ => by
    refine ⟨(), ?_, trivial⟩
    show cs.drop (i * k) = []
    simp at hl
    rw [← hl]; simp
  | m + 1, i, hl, h => by
    obtain ⟨x, hx⟩ := h i (Nat.le_refl _) (by omega)
    obtain ⟨y, hy⟩ := array_dr hs (m := m) (i := i + 1) (by rw [hl]; congr 1; omega) fun j h1 h2 => h j (by omega) (by omega)
    have := prods_cons ⟨x, hx⟩ ⟨y, hy⟩
    have e : (cs.drop (i * k)).take k ++ cs.drop ((i + 1) * k) = cs.drop (i * k) := by
      rw [Nat.add_mul, Nat.one_mul, ← List.drop_drop, List.take_append_drop]
    rw [e] at this
    exact this

theorem cell_some {a : Addr} {v : Value} (h : W.cell? a = some v) : a.spot = none ∧ a.block < W.heap.size := by
  unfold World.cell? at h
  split at h
  · rename_i c e f hh
    refine ⟨?_, (Array.getElem?_eq_some_iff.1 hh).1⟩
    cases hs : a.spot with
    | none => rfl
    | some _ => simp [hs] at h
  · cases h

theorem trod_dr : ∀ (n : Nat) (t : TypeId) (fuel : Nat) (cs : List Value) (q : DataW H × List MemPlace), tyOk P n t = true → DataW.trod enc P W 0 sp held fuel t cs = some q → ∃ x, DRR W (schOf P n t) x cs
  | 0, t, fuel, cs, q, hok, h => by simp [tyOk] at hok
  | n + 1, t, 0, cs, q, hok, h => by simp [DataW.trod] at h
  | n + 1, t, fuel + 1, cs, q, hok, h => by
    unfold tyOk at hok
    unfold DataW.trod at h
    cases hu : P.underlying t with
    | none => simp [hu] at hok
    | some d =>
      simp only [hu] at hok h
      have hs : schOf P (n + 1) t = match P.underlying t with
        | some (.int k) => .int k
        | some .bool => .bool
        | some .string => .str
        | some (.slice e) => .sl (schOf P n e)
        | some (.array m e) => prods (List.replicate m (schOf P n e))
        | some (.struct fs) => prods (fs.toList.map fun f => schOf P n f.type)
        | _ => .unit := rfl
      rw [hu] at hs
      rw [hs]
      cases d <;> try (simp at hok; done)
      case bool =>
        split at h <;> first | (exfalso; simp_all; done) | skip
        rename_i b hd
        exact ⟨b, rfl, trivial⟩
      case int k =>
        split at h <;> first | (exfalso; simp_all; done) | skip
        rename_i k1 k2 m hd
        cases hd
        split at h
        · rename_i hk
          obtain ⟨rfl, hwf⟩ := hk
          exact ⟨m, rfl, hwf⟩
        · cases h
      case string =>
        split at h <;> first | (exfalso; simp_all; done) | skip
        rename_i s hd
        split at h
        · rename_i hsz
          exact ⟨s, rfl, hsz⟩
        · cases h
      case slice e =>
        simp only [Bool.and_eq_true, beq_iff_eq, decide_eq_true_eq] at hok
        obtain ⟨⟨hok1, hok2⟩, hok3⟩ := hok
        split at h <;> first | (exfalso; simp_all; done) | skip
        · exact ⟨([] : List _), ⟨none, 0, rfl, Nat.le_refl _, by simp, fun h0 => by simp at h0⟩, by simp [maxLen], fun x hx => by simp at hx⟩
        · rename_i e' a len cap hd
          cases hd
          split at h
          · rename_i hcond
            obtain ⟨_, hle, hmx⟩ := hcond
            cases hel : (List.range len).mapM fun i => (W.cells? 0 (a.add (i * P.cellsOf e)) (P.cellsOf e)).bind (DataW.trod enc P W 0 sp held fuel e) with
            | none => simp [hel] at h
            | some elems =>
              have hget : ∀ i, i < len → ∃ x, ∃ ws, DRR W (schOf P n e) x ws ∧ ∀ (j : Nat) (v : Value), ws[j]? = some v → W.cell? ((a.add (i * P.cellsOf e)).add j) = some v := by
                intro i hi
                obtain ⟨y, hy⟩ := mapM_get hel i (List.mem_range.2 hi)
                cases hcs : W.cells? 0 (a.add (i * P.cellsOf e)) (P.cellsOf e) with
                | none => simp [hcs] at hy
                | some ws =>
                  simp [hcs] at hy
                  obtain ⟨x, hx⟩ := trod_dr n e fuel ws y hok1 hy
                  refine ⟨x, ws, hx, fun j v hv => ?_⟩
                  unfold World.cells? at hcs
                  simp only [Nat.zero_le, if_true] at hcs
                  obtain ⟨hl, hat⟩ := mapM_at hcs
                  have hj : j < P.cellsOf e := by
                    have := (List.getElem?_eq_some_iff.1 hv).1
                    simp at hl
                    omega
                  obtain ⟨b, hb, hb2⟩ := hat j j (by simp [hj])
                  rw [hv] at hb2
                  cases hb2
                  exact hb
              obtain ⟨xs, hxl, hxs⟩ := pick_all len hget
              have hxm : xs.length ≤ cap := by omega
              refine ⟨xs, ⟨some a, cap, by rw [hxl], hxm, by simp only [maxLen] at hmx; omega, fun h0 => ?_⟩, by omega, fun x hx => ?_⟩
              have h00 := hget 0 (by omega)
              obtain ⟨x0, ws0, hx0, hw0⟩ := h00
              have hl0 := hx0.1.length
              have h1 : ∃ v, ws0[0]? = some v := ⟨ws0[0]'(by omega), by simp⟩
              obtain ⟨v0, hv0⟩ := h1
              have hc0 := hw0 0 v0 hv0
              have ha0 : (a.add (0 * P.cellsOf e)).add 0 = a := by simp [Addr.add]
              rw [ha0] at hc0
              obtain ⟨hsp, hblk⟩ := cell_some hc0
              obtain ⟨ab, ao, asp⟩ := a
              simp only at hsp hblk
              subst hsp
              refine ⟨ab, ao, rfl, fun i x hx => ?_⟩
              obtain ⟨ws, hd, hw⟩ := hxs i x hx
              refine ⟨ws, hd.1, fun j v hv => ⟨hblk, ?_⟩⟩
              have := hw j v hv
              rw [addr_add, addr_add] at this
              rw [hok2]
              exact this
              obtain ⟨i, hi⟩ := List.getElem?_of_mem hx
              obtain ⟨ws, hd, _⟩ := hxs i x hi
              exact hd.2
          · cases h
      case array m e =>
        simp only [Bool.and_eq_true, beq_iff_eq] at hok
        obtain ⟨⟨hok1, hok2⟩, hok3⟩ := hok
        split at h <;> first | (exfalso; simp_all; done) | skip
        rename_i cs _ cs1 m' e' hd
        cases hd
        split at h
        · rename_i hlen
          cases hm : (List.range m).mapM fun i => DataW.trod enc P W 0 sp held fuel e ((cs.drop (i * P.cellsOf e)).take (P.cellsOf e)) with
          | none => simp [hm] at h
          | some ys =>
            have := array_dr (W := W) (s := schOf P n e) hok2 (m := m) (i := 0) (cs := cs) (by rw [hlen, hok3]; simp) fun j _ hj => by
              obtain ⟨y, hy⟩ := mapM_get hm j (List.mem_range.2 (by omega))
              exact trod_dr n e fuel _ y hok1 hy
            simpa using this
        · cases h
      case struct fs =>
        split at h <;> first | (exfalso; simp_all; done) | skip
        rename_i cs _ cs1 fs' hd
        cases hd
        split at h
        · rename_i hlen
          cases hm : fs.toList.mapM fun f => DataW.trod enc P W 0 sp held fuel f.type ((cs.drop f.offset).take (P.cellsOf f.type)) with
          | none => simp [hm] at h
          | some ys =>
            have := fields_dr (W := W) hlen hok (Nat.zero_le _) fun fd hfd hty => by
              obtain ⟨y, hy⟩ := mapM_get hm fd hfd
              exact trod_dr n fd.type fuel _ y hty hy
            simpa using this
        · cases h

/-- An argument. -/
theorem trod_tyv {r : Reach} {b0 : Nat} {t : TypeId} {v : Value} {d : DataW H} {ps : List MemPlace} (hok : tyOk P 12 t = true) (hval : Value.okWide P W r b0 t v) (h : DataW.Trod enc P W 0 sp held t v d ps) :
    ∃ x : (sch P t).D, TyV (allCells W) W (isAggT P t, sch P t) x v ∧ (sch P t).rng x := by
  obtain ⟨fuel, hf⟩ := h
  obtain ⟨x, hx, hr⟩ := trod_dr 12 t fuel _ _ hok hf
  refine ⟨x, ?_, hr⟩
  unfold TyV
  unfold isAggT
  unfold tyOk at hok
  cases hu : P.underlying t with
  | none => simp [hu] at hok
  | some u =>
    cases u <;> try (simp [hu] at hok; done)
    case bool =>
      obtain ⟨b, rfl⟩ := Go.WideShapes.okWide_bool hu hval
      exact hx
    case int k =>
      obtain ⟨b, rfl⟩ := Go.WideShapes.okWide_int hu hval
      exact hx
    case string =>
      obtain ⟨b, rfl⟩ := Go.WideShapes.okWide_string hu hval
      exact hx
    case slice e =>
      obtain ⟨a, l, c, rfl⟩ := Go.WideShapes.okWide_slice hu hval
      exact hx
    case array m e =>
      simp only [Value.okWide, hu] at hval
      obtain ⟨cs, rfl, _⟩ := hval
      exact ⟨cs, rfl, hx⟩
    case struct fs =>
      simp only [Value.okWide, hu] at hval
      obtain ⟨cs, rfl, _⟩ := hval
      exact ⟨cs, rfl, hx⟩

def tysOf (P : Program) (ts : List TypeId) : List Ty := ts.map fun t => (isAggT P t, sch P t)

theorem args_ty {r : Reach} {b0 : Nat} : ∀ {ts : List TypeId} {vs : List Value} {ds : List (DataW H)} {ps : List MemPlace}, ts.all (tyOk P 12) = true →
    (∀ (j : Nat) t v, ts[j]? = some t → vs[j]? = some v → Value.okWide P W r b0 t v) → DataW.TrodAll enc P W 0 sp held ts vs ds ps →
    ∃ x : (tyS (tysOf P ts)).D, TysV (allCells W) W (tysOf P ts) x vs ∧ (tyS (tysOf P ts)).rng x
  | [], vs, ds, ps, _, _, h => by
    cases vs <;> cases ds <;> simp [DataW.TrodAll] at h
    exact ⟨(), rfl, trivial⟩
  | t :: ts, vs, ds, ps, hok, hval, h => by
    cases vs with
    | nil => cases ds <;> simp [DataW.TrodAll] at h
    | cons v vs =>
      cases ds with
      | nil => simp [DataW.TrodAll] at h
      | cons d ds =>
        simp only [DataW.TrodAll] at h
        obtain ⟨p, q, h1, h2, _⟩ := h
        simp only [List.all_cons, Bool.and_eq_true] at hok
        obtain ⟨x, hx, hxr⟩ := trod_tyv hok.1 (hval 0 t v rfl rfl) h1
        obtain ⟨y, hy, hyr⟩ := args_ty hok.2 (fun j t' v' e1 e2 => hval (j + 1) t' v' (by simpa using e1) (by simpa using e2)) h2
        cases ts with
        | nil =>
          have : vs = [] := hy
          subst this
          exact ⟨x, ⟨v, rfl, hx⟩, hxr⟩
        | cons t' ts => exact ⟨(x, y), ⟨v, vs, rfl, hx, hy⟩, hxr, hyr⟩

/-- A law: it returns true, and nothing that lay in memory has turned. -/
theorem law_calls {f : Nat} {en : Entry} {ts : List TypeId} {vs : List Value} {ds : List (DataW H)} {ps : List MemPlace} {r : Reach} {b0 : Nat} (hE : EntryOK P f en) (hdoms : en.doms = tysOf P ts)
    (hpre : ∀ x, (tyS en.doms).rng x → en.pre x) (hres : ∀ x S w' us, TysV S w' en.cods (en.fn x) us → us = [.bool true]) (hok : ts.all (tyOk P 12) = true)
    (hval : ∀ (j : Nat) t v, ts[j]? = some t → vs[j]? = some v → Value.okWide P W r b0 t v) (h : DataW.TrodAll enc P W 0 sp held ts vs ds ps) :
    Calls P f vs.toArray W fun e w' => e = .returned (.bool true) ∧ Below W.heap.size W w' := by
  obtain ⟨x, hx, hr⟩ := args_ty hok hval h
  revert hx hr x
  rw [← hdoms]
  intro x hx hr
  refine (hE.2.2 (allCells W) W vs x (fun b o h => h) hx (hpre x hr)).mono fun e w' he => ?_
  cases e with
  | returned v =>
    obtain ⟨⟨hb, S', _, _, _, us, hus, rfl⟩, _⟩ := he
    rw [hres _ _ _ _ hus]
    exact ⟨rfl, hb⟩
  | panicked _ => exact he.elim
  | outgrown => exact he.elim
end
end Go.Pi
end

section
set_option linter.unusedVariables false
set_option linter.unusedSimpArgs false
namespace Go.Pi
open Go.RowKit
set_option linter.unusedSimpArgs false
set_option linter.unusedVariables false

theorem br_or {p : Prop} [Decidable p] {x : Prop} : br (decide p) x True ↔ (p → x) := by
  by_cases h : p <;> simp [br, h]
theorem br_and {p : Prop} [Decidable p] {x : Prop} : br (decide p) x False ↔ (p ∧ x) := by
  by_cases h : p <;> simp [br, h]
theorem br_dec {p : Prop} [Decidable p] {x y : Prop} : br (decide p) x y ↔ ((p → x) ∧ (¬ p → y)) := by
  by_cases h : p <;> simp [br, h]
theorem br_true_ {b : Bool} {x : Prop} : br b x True ↔ (b = true → x) := by cases b <;> simp [br]
theorem br_false_ {b : Bool} {x : Prop} : br b x False ↔ (b = true ∧ x) := by cases b <;> simp [br]
theorem br_both {b : Bool} {x y : Prop} : br b x y ↔ ((b = true → x) ∧ (b = false → y)) := by cases b <;> simp [br]
theorem br_ite {b : Bool} {x y : Prop} : br b x y ↔ (if b then x else y) := by cases b <;> simp [br]
theorem lenOk_iff {n : Nat} : lenOk n = true ↔ n ≤ 9223372036854775807 := by simp [lenOk]
theorem roomOk_iff {n b : Nat} : roomOk n b = true ↔ n * b ≤ 140737488355328 := by simp [roomOk]

section
variable {P : Program}
theorem EnvOK.nil : EnvOK P [] := fun f en h => by simp [elk] at h
theorem EnvOK.cons {E : Env} {f : Nat} {en : Entry} (h : EntryOK P f en) (hE : EnvOK P E) : EnvOK P ((f, en) :: E) := fun g en' he => by
  simp only [elk] at he
  split at he
  · rename_i e
    subst e
    obtain rfl := Option.some.inj he
    exact h
  · exact hE g en' he
end

structure RunF (P : Program) (E : Env) (A : Anns) (d : Nat) (fn : Func) (doms cods : List Ty) (x : (tyS doms).D) (K : (tyS cods).D → Prop) : Prop where
  out : runF P E A d fn doms cods x K
structure RunU (P : Program) (E : Env) (A : Anns) (d : Nat) (fn : Func) (doms cods : List Ty) (x : (tyS doms).D) (K : (tyS cods).D → Prop) : Prop where
  out : runU P E A d fn doms cods x K
theorem entryF {P : Program} {E : Env} (hP : ProgOK P) (hE : EnvOK P E) {A : Anns} {d f : Nat} {fn : Func} {en : Entry} (hf : P.funcs[f]? = some fn) (hbs : fn.body.isSome = true) (huq : en.uq = false) (hex : en.ex = false) (htot : en.total = true → ∀ x, en.pre x)
    (h : ∀ x, en.pre x → RunF P E A d fn en.doms en.cods x fun y => y = en.fn x) : EntryOK P f en := entry hP hE hf hbs huq hex htot fun x hx => (h x hx).out
theorem entryFU {P : Program} {E : Env} (hP : ProgOK P) (hE : EnvOK P E) {A : Anns} {d f : Nat} {fn : Func} {en : Entry} (hf : P.funcs[f]? = some fn) (hbs : fn.body.isSome = true) (hex : en.ex = false) (htot : en.total = true → ∀ x, en.pre x)
    (h : ∀ x, en.pre x → RunU P E A d fn en.doms en.cods x fun y => y = en.fn x) : EntryOK P f en := entryU hP hE hf hbs hex htot fun x hx => (h x hx).out

structure RunX (P : Program) (E : Env) (A : Anns) (d : Nat) (fn : Func) (doms cods : List Ty) (x : (tyS doms).D) (K : (tyS cods).D → Prop) : Prop where
  out : runX P E A d fn doms cods x K
theorem entryFX {P : Program} {E : Env} (hP : ProgOK P) (hE : EnvOK P E) {A : Anns} {d f : Nat} {fn : Func} {en : Entry} (hf : P.funcs[f]? = some fn) (hbs : fn.body.isSome = true) (huq : en.uq = false) (htot : en.total = true → ∀ x, en.pre x)
    (h : ∀ x, en.pre x → RunX P E A d fn en.doms en.cods x fun y => y = en.fn x) : EntryOK P f en := entryX hP hE hf hbs huq htot fun x hx => (h x hx).out

/-! ### numbers -/
theorem wr {n : Int} (h1 : -9223372036854775808 ≤ n) (h2 : n ≤ 9223372036854775807) : IntKind.i64.wrap n = n := IntWalk.i64_in n ⟨h1, h2⟩

/-! ### numbers modulo 2^64 -/
theorem wrap_def (n : Int) : IntKind.i64.wrap n = (n + 9223372036854775808) % 18446744073709551616 - 9223372036854775808 := by
  rw [IntKind.wrap_i64]
theorem wrap_sub_l (a b : Int) : IntKind.i64.wrap (IntKind.i64.wrap a - b) = IntKind.i64.wrap (a - b) := by simp only [wrap_def]; omega
theorem wrap_sub_r (a b : Int) : IntKind.i64.wrap (a - IntKind.i64.wrap b) = IntKind.i64.wrap (a - b) := by simp only [wrap_def]; omega
theorem wrap_add_l (a b : Int) : IntKind.i64.wrap (IntKind.i64.wrap a + b) = IntKind.i64.wrap (a + b) := by simp only [wrap_def]; omega
theorem wrap_add_r (a b : Int) : IntKind.i64.wrap (a + IntKind.i64.wrap b) = IntKind.i64.wrap (a + b) := by simp only [wrap_def]; omega
theorem wrap_is (a : Int) : ∃ k : Int, IntKind.i64.wrap a = a + k * 18446744073709551616 := by
  refine ⟨-((a + 9223372036854775808) / 18446744073709551616), ?_⟩
  simp only [wrap_def]
  omega
theorem wrap_shift (a k : Int) : IntKind.i64.wrap (a + k * 18446744073709551616) = IntKind.i64.wrap a := by simp only [wrap_def]; omega
theorem wrap_mul_l (a b : Int) : IntKind.i64.wrap (IntKind.i64.wrap a * b) = IntKind.i64.wrap (a * b) := by
  obtain ⟨k, hk⟩ := wrap_is a
  rw [hk, Int.add_mul, show k * 18446744073709551616 * b = k * b * 18446744073709551616 by rw [Int.mul_assoc, Int.mul_assoc, Int.mul_comm b], wrap_shift]
theorem wrap_mul_r (a b : Int) : IntKind.i64.wrap (a * IntKind.i64.wrap b) = IntKind.i64.wrap (a * b) := by
  rw [Int.mul_comm, wrap_mul_l, Int.mul_comm]
theorem wrap_zero : IntKind.i64.wrap 0 = 0 := by simp [wrap_def]

/-- A loop that counts up. -/
theorem LoopP.up {V : Type} {step : ((Int × V) → Prop) → (Int × V) → Prop} (n : Int) (I : Int → V → Prop)
    (h : ∀ (again : (Int × V) → Prop) (i : Int) (v : V), 0 ≤ i → i ≤ n → I i v → (∀ v', i < n → I (i + 1) v' → again (i + 1, v')) → step again (i, v))
    {v : V} (hn : 0 ≤ n) (h0 : I 0 v) : LoopP step (0, v) := by
  refine LoopP.of (fun q => 0 ≤ q.1 ∧ q.1 ≤ n ∧ I q.1 q.2) (fun q => (n - q.1).toNat) (fun again q hq hag => ?_) ⟨Int.le_refl _, hn, h0⟩
  obtain ⟨i, v⟩ := q
  obtain ⟨h1, h2, h3⟩ := hq
  exact h again i v h1 h2 h3 fun v' hlt hI => hag (i + 1, v') ⟨by simp only; omega, by simp only; omega, hI⟩ (by simp only; omega)

/-! ### lists by their places -/
section
variable {α : Type} {l : List α} {d : α} {Q : α → Prop} {p : α → Bool}

theorem getD_lt {i : Nat} (h : i < l.length) : l.getD i d = l[i] := by simp [List.getD_eq_getElem?_getD, List.getElem?_eq_getElem h]

/-- All of the first i, and one more. -/
theorem all_step {i : Int} (h0 : 0 ≤ i) (hi : i < l.length) (h : ∀ x ∈ l.take i.toNat, Q x) (hx : Q (l.getD i.toNat d)) : ∀ x ∈ l.take (i + 1).toNat, Q x := by
  intro x hm
  have hlt : i.toNat < l.length := by omega
  rw [getD_lt hlt] at hx
  rw [show (i + 1).toNat = i.toNat + 1 by omega, List.take_add_one, List.mem_append] at hm
  rcases hm with hm | hm
  · exact h x hm
  · simp [List.getElem?_eq_getElem hlt] at hm
    subst hm
    exact hx
theorem all_done {i : Int} (hi : ¬ i < l.length) (h : ∀ x ∈ l.take i.toNat, Q x) : ∀ x ∈ l, Q x := by
  rwa [List.take_of_length_le (by omega)] at h
theorem all_zero : ∀ x ∈ l.take (0 : Int).toNat, Q x := by simp

theorem split_at {i : Nat} (h : i < l.length) : l = l.take i ++ l.getD i d :: l.drop (i + 1) := by
  rw [getD_lt h, ← List.drop_eq_getElem_cons h, List.take_append_drop]
theorem find_at {i : Int} (h0 : 0 ≤ i) (hi : i < l.length) (h : ∀ x ∈ l.take i.toNat, p x = false) (hx : p (l.getD i.toNat d) = true) : l.find? p = some (l.getD i.toNat d) := by
  have hlt : i.toNat < l.length := by omega
  have e := split_at (d := d) hlt
  generalize l.getD i.toNat d = z at e hx ⊢
  generalize l.take i.toNat = a at e h
  rw [e, List.find?_append, List.find?_eq_none.2 (fun x hm => by simp [h x hm])]
  simp [hx]
theorem findIdx_at {i : Int} (h0 : 0 ≤ i) (hi : i < l.length) (h : ∀ x ∈ l.take i.toNat, p x = false) (hx : p (l.getD i.toNat d) = true) : l.findIdx? p = some i.toNat := by
  have hlt : i.toNat < l.length := by omega
  rw [getD_lt hlt] at hx
  rw [List.findIdx?_eq_some_iff_getElem]
  refine ⟨hlt, hx, fun j hj => ?_⟩
  rw [h _ (List.mem_take_iff_getElem.2 ⟨j, by omega, rfl⟩)]
  simp
theorem find_none (h : ∀ x ∈ l, p x = false) : l.find? p = none := List.find?_eq_none.2 fun x hm => by simp [h x hm]
theorem findIdx_none (h : ∀ x ∈ l, p x = false) : l.findIdx? p = none := by
  rw [List.findIdx?_eq_none_iff]
  exact fun x hm => h x hm
end

/-- A list that is filled from its start. -/
def fillTo {α : Type} (n : Nat) (g : Nat → α) (z : α) (i : Nat) : List α := (List.range n).map fun k => if k < i then g k else z
section
variable {α : Type} {n : Nat} {g : Nat → α} {z : α} {i : Nat}
theorem fillTo_length : (fillTo n g z i).length = n := by simp [fillTo]
theorem fillTo_zero : fillTo n g z 0 = List.replicate n z := by
  apply List.ext_getElem (by simp [fillTo])
  intro j h1 h2
  simp [fillTo]
theorem fillTo_step (hi : i < n) : (fillTo n g z i).set i (g i) = fillTo n g z (i + 1) := by
  apply List.ext_getElem (by simp [fillTo])
  intro j h1 h2
  simp only [fillTo, List.getElem_set, List.getElem_map, List.getElem_range]
  by_cases h : i = j
  · subst h; simp
  · by_cases h3 : j < i
    · simp [h, h3, Nat.lt_succ_of_lt h3]
    · have : ¬ j < i + 1 := by omega
      simp [h, h3, this]
theorem fillTo_getD {k : Nat} (hk : k < n) : (fillTo n g z n).getD k z = g k := by
  simp [fillTo, List.getD_eq_getElem?_getD, hk]
theorem fillTo_all : fillTo n g z n = (List.range n).map g := by
  apply List.ext_getElem (by simp [fillTo])
  intro j h1 h2
  simp only [fillTo, List.length_map, List.length_range] at h1
  simp [fillTo, h1]
end

end Go.Pi
namespace Go.Pi
/-- Loops of four rounds. -/
theorem w4 : IntKind.i64.wrap (0 + 1) = 1 ∧ IntKind.i64.wrap (1 + 1) = 2 ∧ IntKind.i64.wrap (2 + 1) = 3 ∧ IntKind.i64.wrap (3 + 1) = 4 := by decide
theorem loop4 {V : Type} {step : ((Int × V) → Prop) → (Int × V) → Prop} {v : V} (h : ∀ p1 p2 p3 p4 : (Int × V) → Prop,
    (∀ v, step (fun _ => False) (4, v) → p4 (4, v)) → (∀ v, step p4 (3, v) → p3 (3, v)) → (∀ v, step p3 (2, v) → p2 (2, v)) → (∀ v, step p2 (1, v) → p1 (1, v)) → step p1 (0, v)) : LoopP step (0, v) :=
  ⟨5, h _ _ _ _ (fun _ h => h) (fun _ h => h) (fun _ h => h) (fun _ h => h)⟩
end Go.Pi
namespace Go.Pi
theorem br_t {x y : Prop} : br true x y = x := rfl
theorem br_f {x y : Prop} : br false x y = y := rfl
end Go.Pi

namespace Go.Pi
/-- A list that is appended to, one by one. -/
theorem app_step {α : Type} {g : Nat → α} {i : Int} (h0 : 0 ≤ i) : (List.range i.toNat).map g ++ [g i.toNat] = (List.range (i + 1).toNat).map g := by
  rw [show (i + 1).toNat = i.toNat + 1 by omega, List.range_succ, List.map_append]
  rfl

/-- A loop that counts up from some number on. -/
theorem LoopP.upFrom {V : Type} {step : ((Int × V) → Prop) → (Int × V) → Prop} (m n : Int) (I : Int → V → Prop)
    (h : ∀ (again : (Int × V) → Prop) (i : Int) (v : V), m ≤ i → (i ≤ n ∨ i = m) → I i v → (∀ v', i < n → I (i + 1) v' → again (i + 1, v')) → step again (i, v))
    {v : V} (h0 : I m v) : LoopP step (m, v) := by
  refine LoopP.of (fun q => m ≤ q.1 ∧ (q.1 ≤ n ∨ q.1 = m) ∧ I q.1 q.2) (fun q => (n - q.1).toNat) (fun again q hq hag => ?_) ⟨Int.le_refl _, .inr rfl, h0⟩
  obtain ⟨i, v⟩ := q
  obtain ⟨h1, h2, h3⟩ := hq
  exact h again i v h1 h2 h3 fun v' hlt hI => hag (i + 1, v') ⟨by simp only; omega, .inl (by simp only; omega), hI⟩ (by simp only; omega)
end Go.Pi
namespace Go.Pi
/-- A list of which the first ones have been turned. -/
def fill2 {α : Type} (n : Nat) (g h : Nat → α) (i : Nat) : List α := (List.range n).map fun k => if k < i then g k else h k
section
variable {α : Type} {n : Nat} {g h : Nat → α} {z : α} {i : Nat}
theorem fill2_length : (fill2 n g h i).length = n := by simp [fill2]
theorem fill2_zero : fill2 n g h 0 = (List.range n).map h := by simp [fill2]
theorem fill2_all : fill2 n g h n = (List.range n).map g := by
  apply List.ext_getElem (by simp [fill2])
  intro j h1 h2
  simp only [fill2, List.length_map, List.length_range] at h1
  simp [fill2, h1]
theorem fill2_get (hi : i < n) : (fill2 n g h i).getD i z = h i := by
  simp [fill2, List.getD_eq_getElem?_getD, hi]
theorem fill2_step (hi : i < n) : (fill2 n g h i).set i (g i) = fill2 n g h (i + 1) := by
  apply List.ext_getElem (by simp [fill2])
  intro j h1 h2
  simp only [fill2, List.getElem_set, List.getElem_map, List.getElem_range]
  by_cases e : i = j
  · subst e; simp
  · by_cases h3 : j < i
    · simp [e, h3, Nat.lt_succ_of_lt h3]
    · have : ¬ j < i + 1 := by omega
      simp [e, h3, this]
theorem range_getD {k : Nat} (hk : k < n) : ((List.range n).map g).getD k z = g k := by
  simp [List.getD_eq_getElem?_getD, hk]
end

/-- The first error. -/
def firstErr {α : Type} (f : α → Int) (l : List α) : Int := match l.find? (fun x => f x != 0) with
  | some x => f x
  | none => 0
theorem firstErr_nil {α : Type} {f : α → Int} : firstErr f [] = 0 := rfl
theorem firstErr_snoc {α : Type} {f : α → Int} {l : List α} {x : α} : firstErr f (l ++ [x]) = if firstErr f l ≠ 0 then firstErr f l else f x := by
  unfold firstErr
  rw [List.find?_append]
  cases h : l.find? (fun x => f x != 0) with
  | some y =>
    have := List.find?_some h
    simp only [bne_iff_ne, ne_eq] at this
    simp [this]
  | none =>
    by_cases hx : f x = 0
    · simp [hx]
    · simp [hx]
theorem firstErr_take {α : Type} {f : α → Int} {l : List α} {d : α} {i : Int} (h0 : 0 ≤ i) (hi : i < l.length) :
    firstErr f (l.take (i + 1).toNat) = if firstErr f (l.take i.toNat) ≠ 0 then firstErr f (l.take i.toNat) else f (l.getD i.toNat d) := by
  have hlt : i.toNat < l.length := by omega
  rw [show (i + 1).toNat = i.toNat + 1 by omega, List.take_add_one, List.getElem?_eq_getElem hlt, getD_lt hlt]
  exact firstErr_snoc
theorem firstErr_zero {α : Type} {f : α → Int} {l : List α} (h : firstErr f l = 0) : ∀ x ∈ l, f x = 0 := by
  unfold firstErr at h
  split at h
  · rename_i x hx
    have := List.find?_some hx
    simp only [bne_iff_ne, ne_eq] at this
    exact absurd h this
  · rename_i hn
    intro x hx
    have := List.find?_eq_none.1 hn x hx
    simpa using this
theorem firstErr_at {α : Type} {f : α → Int} {l : List α} {d : α} {i : Int} (h0 : 0 ≤ i) (hi : i < l.length) (h : ∀ x ∈ l.take i.toNat, (f x != 0) = false) (hx : (f (l.getD i.toNat d) != 0) = true) : firstErr f l = f (l.getD i.toNat d) := by
  unfold firstErr
  rw [find_at (d := d) h0 hi h hx]
theorem firstErr_none {α : Type} {f : α → Int} {l : List α} (h : ∀ x ∈ l, (f x != 0) = false) : firstErr f l = 0 := by
  unfold firstErr
  rw [find_none h]
end Go.Pi
end
