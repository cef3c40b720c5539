/- Typed data in the machine's memory, an evaluator of loaded code over it, and its proof, part 3. -/
import Derived.Test.YtglijnhkdnhofaaGreatPiB
import Derived.OrdersIn
import Derived.RangeFuncRecord
import Derived.RangeFuncNested
import Derived.Scope
import Derived.Lib.AppendZeros
import Derived.RangeFuncLeaves

section
namespace Go.Pi
open Go.RowKit
set_option linter.unusedSimpArgs false
set_option linter.unusedVariables false

/-- The fence of all functions, in a round or in none. -/
abbrev Fw (ro : Option Nat) : Fence := { Fence.wide with round := ro }

section conv
variable {P : Program} {o : Oper} {a : Act} {w : World} {K : Act → World → Prop} {Q : Exit → Act → World → Prop} {ro : Option Nat} {n : Nat}

theorem callsIn_fw {f : FuncId} {args : Array Value} {R : Ending → World → Prop} : CallsIn (Fw ro) n P f args w R ↔ Calls P f args w R := callsIn_wide (n := n)

theorem wpIn_of_wp (hnd : ∀ c, o.op ≠ .defer c) (h : o.wp P a w K Q) : o.wpIn (Fw ro) n P a w K Q := by
  refine ⟨fun _ _ => trivial, ?_⟩
  rw [Oper.semAt_eq _ _ _ hnd]
  unfold Oper.wp at h
  cases hr : (execOp a.eval o).run P w with
  | ok x w' =>
    rw [hr] at h
    cases x <;> simp only [Oper.upon, Oper.uponIn] at h ⊢ <;> try exact h
    · exact ⟨fun e => (by cases e), callsIn_fw.2 h⟩
    · refine ⟨fun e => (by cases e), fun c cs _ => ?_⟩
      obtain ⟨v, w'', h1, h2⟩ := h c cs
      exact ⟨v, w'', h1, stepsIn_wide.2 h2⟩
  | halt x w' =>
    rw [hr] at h
    cases x <;> simp only [Oper.upon, Oper.uponIn] at h ⊢ <;> exact h
end conv

section scope
variable {P : Program} {b : Frame} {a : Act} {k : List Item} {cs : List Frame} {w : World} {Q : Exit → Act → World → Prop} {F : Fence} {n : Nat}
theorem stepR_scope {c : Code} : step P (lone (b.atR a (.code (.scope c) :: k)) cs w) = .next (lone (b.atR a (.code c :: .inScope c :: k)) cs w) :=
  step_lone_go (by simp [stepG, stepG.exec, Frame.atR])
theorem stepR_inScope {c : Code} : step P (lone (b.atR a (.inScope c :: k)) cs w) = .next (lone (b.atR a k) cs w) :=
  step_lone_go (by simp [stepG, stepG.exec, Frame.atR])

theorem wpIn_scope_straight {c : Code} (h : c.wpIn F n P (Exit.noGoto Q) a w) : (Code.scope c).wpIn F n P Q a w := by
  intro b k cs hro hb hr
  have h0 : (lone (b.atR a (.code (.scope c) :: k)) cs w).fenced P F := fenced_calm hb hr rfl
  obtain ⟨e, a₁, w₁, hq, harr⟩ := h b (.inScope c :: k) cs hro hb hr
  cases e with
  | normal => exact ⟨.normal, a₁, w₁, hq, .head h0 stepR_scope (StepsIn.trans harr (.one (fenced_calm hb hr rfl) stepR_inScope))⟩
  | exit id =>
    refine ⟨.exit id, a₁, w₁, hq, .of_steps (.one h0 stepR_scope) ⟨fun k' hk => harr.1 k' (by simp [exitTo, hk]), fun hs hk => harr.2 hs (by simp [exitTo, hk])⟩⟩
  | goto l => exact hq.elim
  | ret => exact ⟨_, a₁, w₁, hq, .of_steps (.one h0 stepR_scope) harr⟩
  | panic ch => exact ⟨_, a₁, w₁, hq, .of_steps (.one h0 stepR_scope) harr⟩
  | outgrown => exact ⟨_, a₁, w₁, hq, .of_steps (.one h0 stepR_scope) harr⟩

theorem wpIn_loop_n {c : Code} {V : Type} (R : V → Act → World → Prop) (step : (V → Prop) → V → Prop)
    (round : ∀ (again : V → Prop) v a w, R v a w → step again v → c.wpIn F n P (Exit.then (fun a' w' => ∃ v', again v' ∧ R v' a' w') Q) a w) :
    ∀ (m : Nat) (v : V) (a : Act) (w : World), iter step m v → R v a w → (Code.loop c).wpIn F n P Q a w := by
  intro m v a w hit hR b k cs hro hb hr
  have key : ∀ (m : Nat) (v : V) (a : Act) (w : World), iter step m v → R v a w →
      ∃ e a' w', Q e a' w' ∧ ArrivesIn (Machine.fenced P F) P (lone (b.atR a (.code c :: .inLoop c :: k)) cs w) b k cs e a' w' := by
    intro m
    induction m with
    | zero => intro v a w h _; exact h.elim
    | succ m ih =>
      intro v a w h hR
      obtain ⟨e, a₁, w₁, hq, harr⟩ := round (iter step m) v a w hR h b (.inLoop c :: k) cs hro hb hr
      cases e with
      | normal =>
        obtain ⟨v', h1, h2⟩ := hq
        obtain ⟨e₂, a₂, w₂, hq₂, harr₂⟩ := ih v' a₁ w₁ h1 h2
        exact ⟨e₂, a₂, w₂, hq₂, .of_steps (StepsIn.trans harr (.one (fenced_calm hb hr rfl) stepR_inLoop)) harr₂⟩
      | exit id => exact ⟨_, a₁, w₁, hq, .pass (x := .inLoop c) rfl (fun _ _ => .inl (by simp)) harr⟩
      | goto l => exact ⟨_, a₁, w₁, hq, .pass (x := .inLoop c) rfl (fun _ _ => .inl (by simp)) harr⟩
      | ret => exact ⟨_, a₁, w₁, hq, .pass (x := .inLoop c) rfl (fun _ _ => .inl (by simp)) harr⟩
      | panic ch => exact ⟨_, a₁, w₁, hq, .pass (x := .inLoop c) rfl (fun _ _ => .inl (by simp)) harr⟩
      | outgrown => exact ⟨_, a₁, w₁, hq, .pass (x := .inLoop c) rfl (fun _ _ => .inl (by simp)) harr⟩
  obtain ⟨e, a', w', hq, harr⟩ := key m v a w hit hR
  exact ⟨e, a', w', hq, .of_steps (.one (fenced_calm hb hr rfl) stepR_loop) harr⟩
end scope

/-! ### records -/
def jumpOf : Ex → Code
  | .normal => .skip
  | .exit i => .exit i
  | .ret => .ret
def recAt (r : Loop) : LSt → Loop
  | .ready => { r with state := .ready, pending := none }
  | .busy => { r with state := .busy, pending := none }
  | .done e => { r with state := .done, pending := some (jumpOf e) }
def mkD (D : Nat) : Deferred := { target := .collected D, args := #[] }

/-- What stays the same while a frame's code runs. -/
structure Ctx where
  B : Nat
  w0 : World
  R : Nat → Option Loop := fun _ => none
  dm : List Nat := []
  rds : List Nat := []
  ro : Option Nat := none

structure Held (C : Ctx) (S0 : Cells) (outs : Outs) (lp : List (Nat × LSt)) (df : List Deferred) (F : Nat → Prop) (w1 : World) : Prop where
  low : ∀ b, b < C.B → F b
  below : Bel (· < C.B) C.w0 w1
  lt : ∀ b, F b → b < w1.heap.size
  s0 : ∀ b o, S0 b o → b < C.B
  dfr : ∃ Ds : List Nat, df = Ds.map mkD ∧ Ds.Nodup ∧ ∀ D ∈ Ds, F D ∧ C.B ≤ D ∧ D ∉ C.dm ∧ w1.heap[D]? = some (.deferred (some []))
  dm : ∀ D ∈ C.dm, F D ∧ C.B ≤ D ∧ w1.heap[D]? = some (.deferred (some []))
  rds : ∀ l ∈ C.rds, F l ∧ ∃ r, w1.heap[l]? = some (.loop r)
  ro : ∀ l, C.ro = some l → l ∈ C.rds
  lps : ∀ i s, lpAt i lp = some s → ∃ b r, outs.Y i = some b ∧ C.R i = some r ∧ F b ∧ C.B ≤ b ∧ w1.heap[b]? = some (.loop (recAt r s))
  ydom : ∀ i b, outs.Y i = some b → ∃ s, lpAt i lp = some s
  yinj : ∀ i j b, outs.Y i = some b → outs.Y j = some b → i = j

def RX (C : Ctx) (S0 : Cells) (G : Gh) (outs : Outs) (σ : St) (a : Act) (w : World) : Prop :=
  ∃ F w1, Rel F w1 S0 G outs σ a w ∧ Held C S0 outs σ.lps a.defers F w1

section
variable {P : Program} {C : Ctx} {S0 : Cells} {G G' : Gh} {outs : Outs} {σ σ' : St} {a a' : Act} {w w' w1 : World} {F : Nat → Prop}

theorem RX.use (h : RX C S0 G outs σ a w) : ∃ F w1, Rel F w1 S0 G outs σ a w ∧ ∀ σ' G' a' w', Rel F w1 S0 G' outs σ' a' w' → a'.defers = a.defers → σ'.lps = σ.lps → RX C S0 G' outs σ' a' w' := by
  obtain ⟨F, w1, h1, h2⟩ := h
  exact ⟨F, w1, h1, fun σ' G' a' w' h3 h4 h5 => ⟨F, w1, h3, by rw [h4, h5]; exact h2⟩⟩

/-- A new block that is nobody's. -/
theorem Rel.fxAlloc (h : Rel F w1 S0 G outs σ a w) (o : Obj) : Rel (fun b => F b ∨ b = w.heap.size) (w.alloc o) S0 G outs σ a (w.alloc o) := by
  have hk : Keeps G.S w G.S (w.alloc o) := fun b off hS => ⟨hS, World.cell?_alloc_lt w _ _ (h.slt b off hS)⟩
  have hx : Ext G w (lks σ) G (w.alloc o) (lks σ) := Ext.same rfl hk (fun _ _ _ => rfl) fun p ob b c hp hb => Below.heap_alloc w _ b ((h.obj p ob hp).lt hb)
  have hO : ∀ p ob, lk p σ.sto = some ob → ObR (fun b => F b ∨ b = w.heap.size) G (w.alloc o) (lks σ) p ob := fun p ob hp => by
    have h1 := h.obj p ob hp
    have h2 := ObR.ext (G' := G) hx rfl (fun b c hb => ⟨Below.heap_alloc w _ b (h1.lt hb), fun _ hS => hS⟩) (fun _ _ hS => hS) h1
    cases ob with
    | cells fz cs =>
      obtain ⟨b, c, vs, ty, e1, e2, e3⟩ := h2
      exact ⟨b, c, vs, ty, e1, fun e => e.elim e2 (fun e => absurd (h1.lt e1) (by omega)), e3⟩
    | arr m ver s xs =>
      obtain ⟨hp2, h2⟩ := h2
      refine ⟨hp2, ?_⟩
      cases hM : G.M p with
      | none => rw [hM] at h2; exact h2
      | some q =>
        obtain ⟨b, cap⟩ := q
        rw [hM] at h2
        exact ⟨fun e => e.elim h2.1 (fun e => absurd (h1.lt hM) (by omega)), h2.2⟩
    | map ver ka va ks vs xs =>
      obtain ⟨b, c, es, clock, e1, e2, e3⟩ := h2
      exact ⟨b, c, es, clock, e1, fun e => e.elim e2 (fun e => absurd (h1.lt e1) (by omega)), e3⟩
    | it mo ver ks vs left cur =>
      obtain ⟨b, c, bm, c', since, seen, last, ver', ka, va, ks', vs', xs, e1, e2, e3⟩ := h2
      exact ⟨b, c, bm, c', since, seen, last, ver', ka, va, ks', vs', xs, e1, fun e => e.elim e2 (fun e => absurd (h1.lt e1) (by omega)), e3⟩
  exact ⟨Bel.refl _ _, fun b hb => by
      rcases hb with hb | rfl
      · have := h.bsz b hb; simp; omega
      · simp, h.s0, fun b off hS => by
      have := h.slt b off hS
      rcases h.snew b off hS with h1 | h1
      · exact .inl h1
      · exact .inr fun e => e.elim h1 (fun e => by omega), fun b off hS => by have := h.slt b off hS; simp; omega, h.tml, fun t => VR.ext hx (h.tm t),
    h.outl.imp fun _ _ hl => ⟨hl.1, fun t => VR.ext hx (hl.2 t)⟩, hO, h.inj, h.yeq⟩

/-- A block that is nobody's is turned. -/
theorem Rel.fxPut (h : Rel F w1 S0 G outs σ a w) {D : Nat} (hF : F D) (hS0 : ∀ b o, S0 b o → b ≠ D) (x : Obj) : Rel F (w.putObj D x) S0 G outs σ a (w.putObj D x) := by
  have hSD : ∀ b o, G.S b o → b ≠ D := fun b o hS e => by
    subst e
    rcases h.snew b o hS with h1 | h1
    · exact hS0 b o h1 rfl
    · exact h1 hF
  have hblk : ∀ b, b ≠ D → (w.putObj D x).heap[b]? = w.heap[b]? := fun b hb => World.putObj_heap_other hb
  have hk : Keeps G.S w G.S (w.putObj D x) := fun b off hS => ⟨hS, World.cell?_of_block (hblk b (hSD b off hS))⟩
  have hx : Ext G w (lks σ) G (w.putObj D x) (lks σ) := Ext.same rfl hk (fun _ _ _ => rfl) fun p ob b c hp hb => hblk b fun e => by subst e; exact (h.obj p ob hp).ge hb hF
  refine ⟨Bel.refl _ _, fun b hb => by simpa using h.bsz b hb, h.s0, h.snew, fun b off hS => by simpa using h.slt b off hS, h.tml, fun t => VR.ext hx (h.tm t),
    h.outl.imp fun _ _ hl => ⟨hl.1, fun t => VR.ext hx (hl.2 t)⟩, fun p ob hp => ?_, h.inj, h.yeq⟩
  have h1 := h.obj p ob hp
  exact ObR.ext (G' := G) hx rfl (fun b c hb => ⟨hblk b (fun e => by subst e; exact h1.ge hb hF), fun _ hS => hS⟩) (fun _ _ hS => hS) h1

/-! ### what names no 'yield' -/
theorem VR0.noY {look : Look} {i : Nat} {Y' : Nat → Option Nat} (hY : ∀ j, j ≠ i → Y' j = G.Y j) : ∀ {av : AV} {v : Value}, av.noY0 i = true → VR0 G w look av v → VR0 { G with Y := Y' } w look av v := by
  intro av v hc h
  cases av with
  | yld j =>
    simp only [AV.noY0, Bool.not_eq_true', beq_eq_false_iff_ne, ne_eq] at hc
    exact ⟨h.1, fun b hb => h.2 b (by rw [← hY j hc]; exact hb)⟩
  | _ => exact h

theorem CR.noYs {look : Look} {i : Nat} {Y' : Nat → Option Nat} (hY : ∀ j, j ≠ i → Y' j = G.Y j) : ∀ {cs : List AV} {vs : List Value}, cs.all (AV.noY0 i) = true → All2 (CR G w look) cs vs → All2 (CR { G with Y := Y' } w look) cs vs
  | [], [], _, _ => trivial
  | [], _ :: _, _, h => h.elim
  | _ :: _, [], _, h => h.elim
  | c :: r, v :: vs, hc, h => by
    simp only [List.all_cons, Bool.and_eq_true] at hc
    exact ⟨⟨VR0.noY hY hc.1 h.1.1, h.1.2⟩, CR.noYs hY hc.2 h.2⟩

theorem VR1.noY {look : Look} {i : Nat} {Y' : Nat → Option Nat} (hY : ∀ j, j ≠ i → Y' j = G.Y j) {av : AV} {v : Value} (hc : av.noY1 i = true) (h : VR1 G w look av v) : VR1 { G with Y := Y' } w look av v := by
  cases av <;> first
    | (obtain ⟨vs, e, ha⟩ := h; exact ⟨vs, e, CR.noYs hY hc ha⟩)
    | (simp only [VR1] at h ⊢; exact VR0.noY hY hc h)

theorem VR1.noYs {look : Look} {i : Nat} {Y' : Nat → Option Nat} (hY : ∀ j, j ≠ i → Y' j = G.Y j) : ∀ {cs : List AV} {vs : List Value}, cs.all (AV.noY1 i) = true → All2 (VR1 G w look) cs vs → All2 (VR1 { G with Y := Y' } w look) cs vs
  | [], [], _, _ => trivial
  | [], _ :: _, _, h => h.elim
  | _ :: _, [], _, h => h.elim
  | c :: r, v :: vs, hc, h => by
    simp only [List.all_cons, Bool.and_eq_true] at hc
    exact ⟨VR1.noY hY hc.1 h.1, VR1.noYs hY hc.2 h.2⟩

theorem VR.noY {look : Look} {i : Nat} {Y' : Nat → Option Nat} (hY : ∀ j, j ≠ i → Y' j = G.Y j) {av : AV} {v : Value} (hc : av.noY i = true) (h : VR G w look av v) : VR { G with Y := Y' } w look av v := by
  cases av <;> first
    | (obtain ⟨vs, e, ha⟩ := h; exact ⟨vs, e, VR1.noYs hY hc ha⟩)
    | (simp only [VR] at h ⊢; exact VR1.noY hY hc h)

theorem get_noY {i : Nat} {l : Tm} (h : l.all (AV.noY i) = true) (t : Nat) : (get l t).noY i = true := all_get rfl h t

theorem lk_mem {p : Nat} {ob : Ob} : ∀ {l : List (Nat × Ob)}, lk p l = some ob → (p, ob) ∈ l
  | [], h => by simp [lk] at h
  | (q, x) :: r, h => by
    simp only [lk] at h
    split at h
    · rename_i e
      simp at h
      subst e h
      exact .head _
    · exact .tail _ (lk_mem h)

/-- One 'yield' is named otherwise. -/
theorem Rel.setY (h : Rel F w1 S0 G outs σ a w) {i : Nat} (hn : σ.noY i = true) {Y' : Nat → Option Nat} (hY : ∀ j, j ≠ i → Y' j = outs.Y j) : Rel F w1 S0 { G with Y := Y' } { outs with Y := Y' } σ a w := by
  unfold St.noY at hn
  simp only [Bool.and_eq_true] at hn
  obtain ⟨n1, n2, n3⟩ := hn
  have hYG : ∀ j, j ≠ i → Y' j = G.Y j := fun j hj => by rw [h.yeq]; exact hY j hj
  refine ⟨h.below, h.bsz, h.s0, h.snew, h.slt, h.tml, fun t => VR.noY hYG (get_noY n1 t) (h.tm t), ?_, fun p ob hp => ?_, h.inj, rfl⟩
  · have : ∀ (l : List Tm) (m : List (Array Value)), (l.all fun l => l.all (AV.noY i)) = true → All2 (fun (l : Tm) (arr : Array Value) => l.length ≤ arr.size ∧ ∀ t, VR G w (lks σ) (get l t) (arr.getD t Go.undef)) l m →
        All2 (fun (l : Tm) (arr : Array Value) => l.length ≤ arr.size ∧ ∀ t, VR { G with Y := Y' } w (lks σ) (get l t) (arr.getD t Go.undef)) l m := by
      intro l
      induction l with
      | nil => intro m _ h; cases m with
        | nil => trivial
        | cons _ _ => exact h.elim
      | cons x r ih => intro m hc h; cases m with
        | nil => exact h.elim
        | cons q m =>
          simp only [List.all_cons, Bool.and_eq_true] at hc
          exact ⟨⟨h.1.1, fun t => VR.noY hYG (get_noY hc.1 t) (h.1.2 t)⟩, ih m hc.2 h.2⟩
    exact this _ _ n2 h.outl
  · have hm := List.all_eq_true.1 n3 _ (lk_mem hp)
    have h1 := h.obj p ob hp
    cases ob with
    | cells fz cs =>
      obtain ⟨b, c, vs, ty, e1, e2, e3, e4, e5⟩ := h1
      exact ⟨b, c, vs, ty, e1, e2, e3, CR.noYs hYG hm e4, e5⟩
    | arr m ver s xs => exact h1
    | map ver ka va ks vs xs => exact h1
    | it mo ver ks vs left cur => exact h1

/-- A 'yield' is forgotten. -/
theorem VR0.lessY {look : Look} {Y' : Nat → Option Nat} (hY : ∀ j b, Y' j = some b → G.Y j = some b) : ∀ {av : AV} {v : Value}, VR0 G w look av v → VR0 { G with Y := Y' } w look av v := by
  intro av v h
  cases av with
  | yld j => exact ⟨h.1, fun b hb => h.2 b (hY j b hb)⟩
  | _ => exact h
theorem CR.lessY {look : Look} {Y' : Nat → Option Nat} (hY : ∀ j b, Y' j = some b → G.Y j = some b) {av : AV} {v : Value} (h : CR G w look av v) : CR { G with Y := Y' } w look av v := ⟨VR0.lessY hY h.1, h.2⟩
theorem VR1.lessY {look : Look} {Y' : Nat → Option Nat} (hY : ∀ j b, Y' j = some b → G.Y j = some b) {av : AV} {v : Value} (h : VR1 G w look av v) : VR1 { G with Y := Y' } w look av v := by
  cases av <;> first
    | (obtain ⟨vs, e, ha⟩ := h; exact ⟨vs, e, ha.imp fun _ _ h => CR.lessY hY h⟩)
    | (simp only [VR1] at h ⊢; exact VR0.lessY hY h)
theorem VR.lessY {look : Look} {Y' : Nat → Option Nat} (hY : ∀ j b, Y' j = some b → G.Y j = some b) {av : AV} {v : Value} (h : VR G w look av v) : VR { G with Y := Y' } w look av v := by
  cases av <;> first
    | (obtain ⟨vs, e, ha⟩ := h; exact ⟨vs, e, ha.imp fun _ _ h => VR1.lessY hY h⟩)
    | (simp only [VR] at h ⊢; exact VR1.lessY hY h)
theorem Rel.lessY (h : Rel F w1 S0 G outs σ a w) {Y' : Nat → Option Nat} (hY : ∀ j b, Y' j = some b → outs.Y j = some b) : Rel F w1 S0 { G with Y := Y' } { outs with Y := Y' } σ a w := by
  have hYG : ∀ j b, Y' j = some b → G.Y j = some b := fun j b hb => by rw [h.yeq]; exact hY j b hb
  refine ⟨h.below, h.bsz, h.s0, h.snew, h.slt, h.tml, fun t => VR.lessY hYG (h.tm t), h.outl.imp fun _ _ hl => ⟨hl.1, fun t => VR.lessY hYG (hl.2 t)⟩, fun p ob hp => ?_, h.inj, rfl⟩
  have h1 := h.obj p ob hp
  cases ob with
  | cells fz cs =>
    obtain ⟨b, c, vs, ty, e1, e2, e3, e4, e5⟩ := h1
    exact ⟨b, c, vs, ty, e1, e2, e3, e4.imp fun _ _ h => CR.lessY hYG h, e5⟩
  | arr m ver s xs => exact h1
  | map ver ka va ks vs xs => exact h1
  | it mo ver ks vs left cur => exact h1

/-! ### what calls that are entered, and rounds, have to show -/
def frameM (outs : Outs) (d : Nat) : Option (Array Value) := if d < outs.fr.length then outs.fr[outs.fr.length - 1 - d]? else none

/-- From a loop's entry to somewhere within. -/
structure Sub (C0 : Ctx) (outs0 : Outs) (C : Ctx) (outs : Outs) : Prop where
  Y : ∀ j b, outs0.Y j = some b → outs.Y j = some b ∧ C.R j = C0.R j
  fr : ∀ d t, frameM outs0 d = some t → frameM outs d = some t

theorem Sub.refl (C : Ctx) (outs : Outs) : Sub C outs C outs := ⟨fun _ _ h => ⟨h, rfl⟩, fun _ _ h => h⟩
theorem Sub.trans {C C' C'' : Ctx} {outs outs' outs'' : Outs} (h : Sub C outs C' outs') (k : Sub C' outs' C'' outs'') : Sub C outs C'' outs'' :=
  ⟨fun j b hb => by
    obtain ⟨h1, h2⟩ := h.Y j b hb
    obtain ⟨k1, k2⟩ := k.Y j b h1
    exact ⟨k1, k2.trans h2⟩, fun d t hd => k.fr d t (h.fr d t hd)⟩

theorem frameM_push {outs : Outs} {d : Nat} {t x : Array Value} (h : frameM outs d = some t) : frameM (outs.push x) d = some t := by
  unfold frameM at h ⊢
  split at h
  · rename_i hlt
    have : d < (outs.push x).fr.length := by simp [Outs.push]; omega
    rw [if_pos this]
    have e : (outs.push x).fr.length - 1 - d = (outs.fr.length - 1 - d) + 1 := by simp [Outs.push]; omega
    rw [e]
    simpa [Outs.push] using h
  · cases h

theorem frameM_new (outs : Outs) (x : Array Value) : frameM (outs.push x) outs.fr.length = some x := by
  unfold frameM
  rw [if_pos (by simp [Outs.push])]
  simp [Outs.push]

/-- A round, from a call of 'yield' on. -/
def HdOK (P : Program) (S0 : Cells) (i : Nat) (h : Hd) (C0 : Ctx) (outs0 : Outs) (b : Nat) (r : Loop) : Prop :=
  ∀ (C : Ctx) (outs : Outs) (site : Nat) (avs : List AV) (σ : St) (k : AV → St → Prop), Sub C0 outs0 C outs → h site avs σ k →
    ∀ (G : Gh) (a : Act) (w : World) (args : List Value) (R : Ending → World → Prop), RX C S0 G outs σ a w → All2 (VR G w (lks σ)) avs args →
      (∀ av v σ' G' w', k av σ' → Pres σ σ' → RX C S0 G' outs σ' a w' → VR G' w' (lks σ') av v → R (.returned v) w') →
      args.length = r.params.size ∧ RoundIn Fence.wide 0 P b r.fn ((r.params.zip args.toArray).foldl (fun tmps (t, a) => tmps.setIfInBounds t a) r.tmps) r.assign r.body w R

def YsOK (P : Program) (S0 : Cells) (C : Ctx) (outs : Outs) (Y : Ys) : Prop :=
  ∀ i h, ylo i Y = some h → ∃ C0 outs0 b r, Sub C0 outs0 C outs ∧ outs0.Y i = some b ∧ C0.R i = some r ∧ HdOK P S0 i h C0 outs0 b r

theorem YsOK.sub {C C' : Ctx} {outs outs' : Outs} {Y : Ys} (h : YsOK P S0 C outs Y) (hs : Sub C outs C' outs') : YsOK P S0 C' outs' Y := fun i hd hy => by
  obtain ⟨C0, outs0, b, r, h1, h2⟩ := h i hd hy
  exact ⟨C0, outs0, b, r, h1.trans hs, h2⟩

theorem Sub.push {C C' : Ctx} {outs : Outs} (hR : ∀ j, C'.R j = C.R j) (x : Array Value) : Sub C outs C' (outs.push x) := ⟨fun j b h => ⟨h, hR j⟩, fun d t h => frameM_push h⟩

def InlOK (P : Program) (inl : Inl) : Prop :=
  ∀ (C : Ctx) (S0 : Cells) (outs : Outs) (Y : Ys) (site f : Nat) (avs : List AV) (σ : St) (k : AV → St → Prop), inl Y site f avs σ k →
    (∃ fn, P.funcs[f]? = some fn ∧ fn.body.isSome = true) ∧
    ∀ (G : Gh) (a : Act) (w : World) (args : List Value) (R : Ending → World → Prop), YsOK P S0 C (outs.push a.tmps) Y → RX C S0 G outs σ a w → All2 (VR G w (lks σ)) avs args →
      (∀ av v σ' G' w', k av σ' → Pres σ σ' → RX C S0 G' outs σ' a w' → VR G' w' (lks σ') av v → R (.returned v) w') → Calls P f args.toArray w R

theorem frz_lps : ∀ (l : List Nat) (σ : St), (Pi.frz l σ).lps = σ.lps
  | [], σ => rfl
  | o :: r, σ => (frz_lps r _).trans (by unfold Pi.frz1; split <;> rfl)

theorem RX.frz (h : RX C S0 G outs σ a w) (l : List Nat) : ∃ G', RX C S0 G' outs (Pi.frz l σ) a w := by
  obtain ⟨F, w1, hR, hc⟩ := h.use
  obtain ⟨G', hR'⟩ := Rel.frz l hR
  exact ⟨G', hc _ _ _ _ hR' rfl (frz_lps l σ)⟩

theorem run_yield_call {o : Oper} {c : Call} {fv : Operand} {b : Nat} {r r' : Loop} (ho : o.op = .call c) (hcal : c.callee = .value fv) (hv : a.eval fv = .func (.yield b) #[] #[]) (hb : w.heap[b]? = some (.loop r'))
    (hr : r'.fn = r.fn ∧ r'.params = r.params ∧ r'.tmps = r.tmps ∧ r'.assign = r.assign ∧ r'.body = r.body) (hs : (c.args.toList.map a.eval).length = r.params.size) :
    (execOp a.eval o).run P w = .ok (.round b r.fn ((r.params.zip (c.args.toList.map a.eval).toArray).foldl (fun tmps (t, a) => tmps.setIfInBounds t a) r.tmps) r.assign r.body) w := by
  obtain ⟨h1, h2, h3, h4, h5⟩ := hr
  have hy := run_yield (P := P) (args := (c.args.toList.map a.eval).toArray) hb (by rw [h2]; simpa using hs)
  rw [h1, h2, h3, h4, h5] at hy
  have e : (c.args.toList.map a.eval).toArray = c.args.map a.eval := by apply Array.ext'; simp
  rw [e] at hy ⊢
  unfold execOp
  simp only [ho, resolve, hcal, hv, Sem.run_bind, Sem.run_pure, Result.andThen_ok, Deferred.ofValue, invoke]
  simpa [go_sem] using hy
end
end Go.Pi
end

section
namespace Go.Pi
open Go.RowKit
set_option linter.unusedSimpArgs false
set_option linter.unusedVariables false

section
variable {P : Program} {B : Nat → Prop} {w0 : World} {S0 : Cells} {G G' : Gh} {outs : Outs} {σ : St} {a : Act} {w w' : World} {o : Oper} {look : Look}
variable {K : Act → World → Prop} {Q : Exit → Act → World → Prop} {E : Env} {own : List Nat} {inl : Inl} {Y : Ys} {C : Ctx} {ro : Option Nat} {n : Nat}

theorem put_defers (a : Act) (dst : Option Tmp) (v : Value) : (a.put dst v).defers = a.defers := by cases dst <;> rfl

theorem caps_vr {caps : List Value} : ∀ {l : List Nat}, All2 (fun o v => PtrR G look o 0 v) l caps → All2 (VR G w look) (l.map fun p => .ptr p 0) caps := by
  induction caps with
  | nil => intro l h; cases l with
    | nil => trivial
    | cons _ _ => exact h.elim
  | cons v r ih => intro l h; cases l with
    | nil => exact h.elim
    | cons o l => exact ⟨h.1, ih h.2⟩

theorem Pres.eff (σ : St) (dst : Option Tmp) (av : AV) (upd : List (Nat × Ob)) : Pres σ (appEff dst σ av upd) := by
  have h1 : ∀ (upd : List (Nat × Ob)) (s : List (Nat × Ob)) (p : Nat), (∃ u ∈ upd, u.1 = p) ∨ lk p (upd.foldl (fun s u => ups u.1 u.2 s) s) = lk p s := by
    intro upd
    induction upd with
    | nil => intro s p; exact .inr rfl
    | cons u r ih =>
      intro s p
      rcases ih (ups u.1 u.2 s) p with ⟨v, hv, e⟩ | h2
      · exact .inl ⟨v, .tail _ hv, e⟩
      · by_cases e : p = u.1
        · exact .inl ⟨u, .head _, e.symm⟩
        · refine .inr ?_
          rw [List.foldl_cons, h2, lk_ups, if_neg e]
  have hob : ∀ p, p ∈ (upd.map (·.1) ++ σ.dob) ∨ ∀ ob, lk p (upd.foldl (fun s u => ups u.1 u.2 s) σ.sto) = some ob → lk p σ.sto = some ob := by
    intro p
    rcases h1 upd σ.sto p with ⟨u, hu, e⟩ | h2
    · exact .inl (List.mem_append_left _ (List.mem_map.2 ⟨u, hu, e⟩))
    · exact .inr fun ob h => by rw [← h2]; exact h
  cases dst with
  | none => exact ⟨fun _ => .inr (.inl rfl), fun _ h => h, hob, fun p hp => List.mem_append_right _ hp, rfl, rfl⟩
  | some d =>
    refine ⟨fun t => ?_, fun t ht => .tail _ ht, hob, fun p hp => List.mem_append_right _ hp, rfl, by simp [appEff, Tm.length_set]⟩
    by_cases h : t = d
    · exact .inl (by simp [appEff, h])
    · refine .inr (.inl ?_)
      show get (σ.tm.set d av) t = _
      rw [get_set, if_neg (fun e => h e.1)]

theorem op_sliceArr (h : Rel B w0 S0 G outs σ a w) {q : AV × Nat × Ob} (he : sliceArr P σ o = some q) :
    ∃ u G', Done P o a w u w ∧ Rel B w0 S0 G' outs (appEff o.dst σ q.1 [q.2]) (a.put o.dst u) w := by
  unfold sliceArr at he
  split at he
  · rename_i t x ho
    split at he
    · rename_i m e p off hu hx
      split at he
      · rename_i fz cs hp
        split at he
        · rename_i hcond
          obtain ⟨hel, hpos, hm0, hm, hfit⟩ := hcond
          split at he
          · rename_i xs hxs
            obtain rfl := Option.some.inj he
            obtain ⟨hinf, hsz⟩ := elOk_parts hel
            have hv := ev_rel h x
            rw [hx] at hv
            obtain ⟨_, b, c, hM, hv⟩ := hv
            obtain ⟨b', c', vs, ty, hM', hB, hh, hcs, hS⟩ := h.obj p _ hp
            rw [hM] at hM'
            simp only [Option.some.injEq, Prod.mk.injEq] at hM'
            obtain ⟨rfl, rfl⟩ := hM'
            have hlt : b < w.heap.size := (Array.getElem?_eq_some_iff.1 hh).1
            have hvl := hcs.length
            simp only [Array.length_toList] at hvl
            obtain ⟨hxl, hdn⟩ := decN_rel ((hcs.drop off).take (m * szOf P e)) hxs
            obtain ⟨S', hS'⟩ : ∃ S' : Cells, S' = fun b' o' => G.S b' o' ∨ (b' = b ∧ off ≤ o' ∧ o' < off + m * szOf P e) := ⟨_, rfl⟩
            have hk : Keeps G.S w S' w := fun b' o' hs => ⟨by rw [hS']; exact .inl hs, rfl⟩
            have hx0 : Ext G w (lks σ) { G with S := S' } w (fun q => lk q (ups p (.cells true cs) σ.sto)) :=
              Ext.upd1 (G' := { G with S := S' }) rfl hk (fun _ _ _ _ => rfl) (fun _ _ _ _ _ _ _ => rfl) (by rw [hp]; exact ⟨rfl, true, cs, rfl⟩)
            have hR := h.upd1 (G' := { G with S := S' }) rfl p (.cells true cs) σ.dt (p :: σ.dob) hk (fun _ _ _ _ => rfl)
              (fun p' ob' b' c' e' hp' hb' => ⟨rfl, fun off' hs => by
                rw [hS'] at hs
                rcases hs with hs | ⟨rfl, _⟩
                · exact hs
                · exact (e' (h.inj p' p ob' _ b' c' c hp' hp hb' hM)).elim⟩)
              (by rw [hp]; exact ⟨rfl, true, cs, rfl⟩)
              ⟨b, c, vs, ty, hM, hB, hh, hcs.imp fun _ _ hc => CR.ext hx0 hc, fun e' => by cases e'⟩
              (fun p' ob' b' c' c3 e' hp' hb' hb3 => e' (h.inj p' p ob' _ b' c' c3 hp' hp hb' hb3)) h.below h.bsz
              (fun b' off' hs => by
                rw [hS'] at hs
                rcases hs with hs | ⟨rfl, _⟩
                · exact .inl hs
                · exact .inr hB)
              (fun b' off' hs => by
                rw [hS'] at hs
                rcases hs with hs | ⟨rfl, _⟩
                · exact h.slt _ _ hs
                · exact hlt)
            refine ⟨.slice (some ⟨b, off, none⟩) m m, _, .inl ?_, hR.put o.dst (av := .sl false (sch P e) xs) ⟨?_, fun e' => by cases e'⟩⟩
            · unfold execOp
              have hev : a.eval x = .pointer (some ⟨b, off, none⟩) := hv
              simp only [ho, hev, Option.map_none, Instr.sliceAt, Instr.sureAddr, Sem.run_bind, run_underlying hu w, Result.andThen_ok, Sem.run_pure, Instr.sliceBounds, size_run hinf w]
              have hm1 : m ≠ 0 := by omega
              simp [hm1, addr_add]
            · refine ⟨_, m, by rw [hxl], by rw [hxl]; exact Nat.le_refl _, by omega, fun _ => ⟨b, off, rfl, fun i y hy => ?_⟩⟩
              have hi : i < m := by
                rw [← hxl]
                exact (List.getElem?_eq_some_iff.1 hy).1
              refine ⟨_, DR.mono hk (hdn.2 i y hy), fun j u hu' => ?_⟩
              rw [List.getElem?_take] at hu'
              split at hu'
              · rename_i hj
                rw [List.getElem?_drop, List.getElem?_take] at hu'
                split at hu'
                · rename_i hj2
                  rw [List.getElem?_drop] at hu'
                  refine ⟨by rw [hS']; exact .inr ⟨rfl, by omega, by omega⟩, ?_⟩
                  rw [cell_of_block hh]
                  simpa [Nat.add_assoc] using hu'
                · cases hu'
              · cases hu'
          · cases he
        · cases he
      · cases he
    · cases he
  · cases he

theorem cap_nil {c : Call} (hc : c.callee = .builtin .cap) (ho : o.op = .call c) {t el : TypeId} {x : Operand} (ht : c.argTypes[0]? = some t) (hx : c.args[0]? = some x) (hu : P.underlying t = some (.slice el)) (hv : a.eval x = .slice none 0 0) :
    (execOp a.eval o).run P w = .ok (.value (.int .i64 0)) w := by
  have hargs : (c.args.map a.eval)[0]? = some (a.eval x) := by simp [hx]
  have hr : (Builtin.cap_ c.argTypes o.type (c.args.map a.eval)).run P w = .ok (.int .i64 0) w := by
    unfold Builtin.cap_
    simp only [ht, hargs, hv, Sem.run_bind, run_underlying hu w, Result.andThen_ok]
    rfl
  unfold execOp
  simp [ho, hc, resolve, invoke, builtin, hr]

theorem op_zeros (h : Rel B w0 S0 G outs σ a w) {t tn el : TypeId} {kq kn : IntKind} {x y : Operand} (ho : o.op = .call { callee := .builtin .append, args := #[x, y], argTypes := #[t, tn] }) (ht : P.underlying t = some (.slice el)) (htn : P.underlying tn = some (.int kn)) {n : Int}
    (hx : ev σ.tm x = .nils) (hy : ev σ.tm y = .int kq n) {zs : List AV} (hz : zeroCs P el = some zs) {z : (sch P el).D} (hd : (sch P el).dec zs = some (z, [])) (hel : elOk P el = true) (hpos : 0 < szOf P el) (hby : 0 < bytesOfT P el) {site : Nat} (hsite : lk site σ.sto = none)
    (hn : 0 < n) (hroom : roomOk n.toNat (bytesOfT P el) = true) :
    ∃ u G' w', Done P o a w u w' ∧ Rel B w0 S0 G' outs (appEff o.dst σ (.ref site 0) [(site, .arr .uniq 0 (sch P el) (List.replicate n.toNat z))]) (a.put o.dst u) w' := by
  simp only [decide_eq_true_eq, roomOk] at hroom
  obtain ⟨hinf, hsz⟩ := elOk_parts hel
  obtain ⟨i, zv, hi, hiz, hzr, hzd⟩ := zero_dr hz hd
  have hbi : bytesOfT P el = i.bytes := by simp [bytesOfT, hi]
  have hsi : szOf P el = i.size := by simp [szOf, hi]
  have hle : n.toNat ≤ n.toNat * bytesOfT P el := Nat.le_mul_of_pos_right _ hby
  have hxv : a.eval x = .slice none 0 0 := by have := ev_rel h x; rw [hx] at this; exact this
  have hyv := ev_rel h y; rw [hy] at hyv; have hyv := hyv.int
  have hr := Lib.run_append_nil_zeros (P := P) w t tn o.type el i zv kq kn ht htn hi hiz n.toNat (by omega) (by omega) (by omega) (by rw [← hbi]; omega)
  rw [show ((n.toNat : Nat) : Int) = n by omega, ← hyv] at hr
  have hzl : zv.cells.size = (sch P el).size := by have := (hzd G.S w).length; simpa using this
  have hmade := (madeCells_drn (hzd G.S w) (show 0 < (sch P el).size by omega) n.toNat).drew
  have he : Builtin.zeroCells zv.cells n.toNat = madeCells zv.cells (n.toNat * (sch P el).size) := by
    rw [← hzl]; rfl
  rw [he] at hr
  have hge := grownCap_ge w n.toNat 0 el
  have hcm := grownCap_le_maxLen w n.toNat 0 el (by simp only [maxLen]; omega)
  have hR := h.drew.moveOb (site := site) (k := 0) (.arr .uniq 0 (sch P el) (List.replicate n.toNat z)) (madeCells zv.cells (n.toNat * (sch P el).size) ++ Builtin.zeroCells zv.cells (grownCap w n.toNat 0 el - n.toNat)) el (grownCap w n.toNat 0 el) σ.dt (site :: σ.dob) (by rw [hsite]; trivial)
    (fun hk look' => arr_new (w := w.drew) (k := 0) (m := .uniq) (ver := 0) (xs := List.replicate n.toNat z) (ty := el) (s := sch P el) h.fresh h.slt (by omega) rfl (by
      simp only [Array.size_append, size_madeCells, size_zeroCells, hzl, ← Nat.add_mul]
      congr 1
      omega) (by simpa using hge) (by simp only [maxLen] at hcm; omega) (by have := drn_take hmade (Builtin.zeroCells zv.cells (grownCap w n.toNat 0 el - n.toNat)).toList; simpa using this) rfl hk look')
  refine ⟨_, _, _, app_done ho hxv hr, hR.put o.dst (av := .ref site 0) ?_⟩
  exact refV_ref (n := n.toNat) (xs := List.replicate n.toNat z) (s := sch P el) (m := .uniq) trivial (by simp [lks, lk_ups]) rfl (by simp) (by simp [RefV])

/-- A closure over a variable that is written no more. -/
theorem clo_frz (h : Rel B w0 S0 G outs σ a w) {f : FuncId} {first cap : Array Operand} (ho : o.op = .makeFunc (.func f) first cap) (hfirst : first.toList = []) {x : Operand} (hcap : cap.toList = [x]) {p : Nat} (hx : ev σ.tm x = .ptr p 0) {fz : Bool} {cs : List AV} (hp : lk p σ.sto = some (.cells fz cs))
    {q : Sigma fun s : Sch => s.D} (hq : cloData (fun o => lk o σ.sto) cs = some q) :
    ∃ G', (execOp a.eval o).run P w = .ok (.value (.func (.func f) #[] (cap.map a.eval))) w ∧ Rel B w0 S0 G' outs (appEff o.dst σ (.clo f q.1 q.2) [(p, .cells true cs)]) (a.put o.dst (.func (.func f) #[] (cap.map a.eval))) w := by
  unfold cloData at hq
  split at hq
  · rename_i s hs
    split at hq
    · rename_i y hy
      split at hq
      · rename_i hpos
        obtain rfl := Option.some.inj hq
        have hv := ev_rel h x
        rw [hx] at hv
        obtain ⟨_, b, c, hM, hv⟩ := hv
        obtain ⟨b', c', vs, ty, hM', hB, hh, hcs, hS⟩ := h.obj p _ hp
        rw [hM] at hM'
        simp only [Option.some.injEq, Prod.mk.injEq] at hM'
        obtain ⟨rfl, rfl⟩ := hM'
        have hlt : b < w.heap.size := (Array.getElem?_eq_some_iff.1 hh).1
        have hd : DR G.S w s y vs.toList := full_rel (purs_rel h.obj hcs) hy
        have hsz := hd.length
        simp only [Array.length_toList] at hsz
        obtain ⟨S', hS'⟩ : ∃ S' : Cells, S' = fun b' o' => G.S b' o' ∨ (b' = b ∧ o' < vs.size) := ⟨_, rfl⟩
        have hk : Keeps G.S w S' w := fun b' o' hs => ⟨by rw [hS']; exact .inl hs, rfl⟩
        have hx0 : Ext G w (lks σ) { G with S := S' } w (fun q => lk q (ups p (.cells true cs) σ.sto)) :=
          Ext.upd1 (G' := { G with S := S' }) rfl hk (fun _ _ _ _ => rfl) (fun _ _ _ _ _ _ _ => rfl) (by rw [hp]; exact ⟨rfl, true, cs, rfl⟩)
        have hR := h.upd1 (G' := { G with S := S' }) rfl p (.cells true cs) σ.dt (p :: σ.dob) hk (fun _ _ _ _ => rfl)
          (fun p' ob' b' c' e' hp' hb' => ⟨rfl, fun off' hs => by
            rw [hS'] at hs
            rcases hs with hs | ⟨rfl, _⟩
            · exact hs
            · exact (e' (h.inj p' p ob' _ b' c' c hp' hp hb' hM)).elim⟩)
          (by rw [hp]; exact ⟨rfl, true, cs, rfl⟩)
          ⟨b, c, vs, ty, hM, hB, hh, hcs.imp fun _ _ hc => CR.ext hx0 hc, fun e' => by cases e'⟩
          (fun p' ob' b' c' c3 e' hp' hb' hb3 => e' (h.inj p' p ob' _ b' c' c3 hp' hp hb' hb3)) h.below h.bsz
          (fun b' off' hs => by
            rw [hS'] at hs
            rcases hs with hs | ⟨rfl, _⟩
            · exact .inl hs
            · exact .inr hB)
          (fun b' off' hs => by
            rw [hS'] at hs
            rcases hs with hs | ⟨rfl, _⟩
            · exact h.slt _ _ hs
            · exact hlt)
        refine ⟨_, ?_, hR.put o.dst (av := .clo f s y) ⟨_, b, 0, rfl, fun i z hz => ?_, by rw [Array.toList_map, hcap]; simp only [List.map_cons, List.map_nil]; rw [show a.eval x = _ from hv]⟩⟩
        · have hf0 : first = #[] := by simpa using hfirst
          subst hf0
          unfold execOp
          simp [ho, Instr.makeFunc]
        · cases i with
          | succ i => simp at hz
          | zero =>
            simp only [List.getElem?_cons_zero, Option.some.injEq] at hz
            subst hz
            refine ⟨vs.toList, DR.mono hk hd, fun j u hu => ?_⟩
            have hj : j < vs.size := by
              have := (List.getElem?_eq_some_iff.1 hu).1
              simpa using this
            refine ⟨by rw [hS']; exact .inr ⟨rfl, by omega⟩, ?_⟩
            rw [cell_of_block hh]
            simpa using hu
      · cases hq
    · cases hq
  · cases hq

/-- A block is written that holds one object alone, and nothing that is marked. -/
theorem row_rel (h : Rel B w0 S0 G outs σ a w) {p : Nat} {ob ob' : Ob} {b cp : Nat} {cur : Array Value} {ty : TypeId} {new : Array Value} (dt' dob' : List Nat) (hp : lk p σ.sto = some ob) (hm : G.M p = some (b, cp))
    (hh : w.heap[b]? = some (.cells cur ty (0, 0))) (hS : ∀ off, ¬ G.S b off) (hB : ¬ B b) (hT : Turn G G p ob' (some ob)) (hN : ∀ look' : Look, Ext G w (lks σ) G (w.setRow b new) look' → Keeps G.S w G.S (w.setRow b new) → ObR B G (w.setRow b new) look' p ob') :
    Rel B w0 S0 G outs { σ with sto := ups p ob' σ.sto, dt := dt', dob := dob' } a (w.setRow b new) := by
  have hk : Keeps G.S w G.S (w.setRow b new) := fun b' o' hs => ⟨hs, cell_setRow_other w b new _ (fun e => by
    simp only at e; subst e; exact hS _ hs)⟩
  have hold : Turn G G p ob' (lk p σ.sto) := by rw [hp]; exact hT
  have hM : ∀ q ob'', q ≠ p → lk q σ.sto = some ob'' → G.M q = G.M q := fun _ _ _ _ => rfl
  refine h.upd1 (G' := G) rfl p ob' dt' dob' hk hM (fun q ob'' b'' c'' e hq hb'' => ⟨setRow_other w b b'' new (fun e' => ?_), fun _ hs => hs⟩) hold (hN _ (Ext.upd1 rfl hk hM (fun q ob'' b'' c'' e hq hb'' => setRow_other w b b'' new (fun e' => e (h.inj q p ob'' ob b c'' cp hq hp (e' ▸ hb'') hm))) hold) hk)
    (fun q ob'' b'' c'' c3 e hq hb'' hb3 => ?_) (bel_setRow h.below hB new) (by simpa using h.bsz) (fun b' o' hs => .inl hs) (fun b' o' hs => by simpa using h.slt b' o' hs)
  · subst e'
    exact e (h.inj q p ob'' ob b'' c'' cp hq hp hb'' hm)
  · exact e (h.inj q p ob'' ob b'' c'' c3 hq hp hb'' hb3)

/-- clear of what lies from an element on of a slice of numbers. -/
theorem clear_spec (h : Rel B w0 S0 G outs σ a w) {c : Call} (ho : o.op = .call c) (hc : c.callee = .builtin .clear) {t : TypeId} {x : Operand} (ht : c.argTypes.toList = [t]) (hx : c.args.toList = [x]) {e : TypeId} (hel : elemT P t = some e)
    {ob ver lo : Nat} (hv : ev σ.tm x = .vw ob ver lo) {k : IntKind} {xs : List Int} (hob : lk ob σ.sto = some (.arr .uniq ver (.int k) xs)) {z : Int} (hz : zeroCs P e = some [.int k z]) :
    ∃ u G' w', Done P o a w u w' ∧ Rel B w0 S0 G' outs (appEff o.dst σ .undef [(ob, .arr .uniq ver (.int k) (xs.take lo ++ List.replicate (xs.length - lo) z))]) (a.put o.dst u) w' := by
  have hu := elemT_under hel
  have hrv := ev_rel h x
  rw [hv] at hrv
  obtain ⟨_, m2, ver2, s2, xs2, hob2, _, hrv⟩ := hrv
  have hob2 : lk ob σ.sto = some (.arr m2 ver2 s2 xs2) := hob2
  rw [hob] at hob2
  simp only [Option.some.injEq, Ob.arr.injEq] at hob2
  obtain ⟨rfl, rfl, rfl, e2⟩ := hob2
  have e3 := eq_of_heq e2
  subst e3
  obtain ⟨hle, ad, cp, hxv, had⟩ := hrv rfl
  have hO := h.obj ob _ hob
  obtain ⟨zv, hzr, hzc⟩ := zero_run (P := P) hz
  have hzc := hzc G w (lks σ)
  have hzv : zv.cells = #[.int k z] := by
    have h1 := hzc.length
    cases hl : zv.cells.toList with
    | nil => rw [hl] at h1; simp at h1
    | cons u r =>
      rw [hl] at hzc
      obtain ⟨⟨hu1, _⟩, hr⟩ := hzc
      cases r with
      | nil =>
        have hu1 : u = .int k z := hu1
        rw [← Array.toArray_toList (xs := zv.cells), hl, hu1]
      | cons _ _ => exact hr.elim
  have hzl : ∀ n : Nat, (Builtin.zeroCells zv.cells n).toList = List.replicate n (.int k z) := fun n => by
    rw [hzv]
    simp [Builtin.zeroCells]
    apply List.ext_getElem
    · simp
    · intro i h1 h2
      simp [Nat.mod_one]
  have hargs : (c.args.map a.eval)[0]? = some (a.eval x) := by
    have e2 : c.args = #[x] := by rw [← Array.toArray_toList (xs := c.args), hx]
    simp [e2]
  have hat : c.argTypes[0]? = some t := by
    have e1 : c.argTypes = #[t] := by rw [← Array.toArray_toList (xs := c.argTypes), ht]
    simp [e1]
  have run : ∀ w', (Builtin.clear_ c.argTypes o.type (c.args.map a.eval)).run P w = .ok (.tuple #[]) w' → Done P o a w (.tuple #[]) w' := by
    intro w' hr
    left
    unfold execOp
    simp [ho, hc, resolve, invoke, builtin, hr]
  have hlist : ∀ i : Nat, ∀ y : Int, (xs.take lo ++ List.replicate (xs.length - lo) z)[i]? = some y → (i < lo ∧ xs[i]? = some y) ∨ (lo ≤ i ∧ i < xs.length ∧ y = z) := fun i y hy => by
    rw [List.getElem?_append, List.length_take, Nat.min_eq_left hle] at hy
    split at hy
    · rename_i hi
      rw [List.getElem?_take, if_pos hi] at hy
      exact .inl ⟨hi, hy⟩
    · rename_i hi
      rw [List.getElem?_replicate] at hy
      split at hy
      · exact .inr ⟨by omega, by omega, (Option.some.inj hy).symm⟩
      · cases hy
  have hlen : (xs.take lo ++ List.replicate (xs.length - lo) z).length = xs.length := by
    rw [List.length_append, List.length_take, List.length_replicate]; omega
  rcases Nat.eq_zero_or_pos (xs.length - lo) with h0 | hp
  · have hsame : xs.take lo ++ List.replicate (xs.length - lo) z = xs := by
      rw [h0, List.replicate_zero, List.append_nil, List.take_of_length_le (by omega)]
    rw [hsame]
    refine ⟨_, G, w, run w ?_, ?_⟩
    · unfold Builtin.clear_
      simp only [hat, hargs, hxv, h0, Sem.run_bind, run_underlying hu w, Result.andThen_ok]
      cases ad <;> rfl
    · have hR := h.upd1 (G' := G) rfl ob (.arr .uniq ver (.int k) xs) σ.dt (ob :: σ.dob) (Keeps.refl _ _) (fun _ _ _ _ => rfl) (fun _ _ _ _ _ _ _ => ⟨rfl, fun _ hs => hs⟩)
        (by rw [hob]; exact ⟨.uniq, ver, xs, rfl, rfl, Nat.le_refl _, fun _ => rfl, fun _ => ⟨rfl, rfl⟩⟩)
        ⟨hO.1, hO.2⟩
        (fun p' ob' b' c' c3 e' hp' hb' hb3 => e' (h.inj p' ob ob' _ b' c' c3 hp' hob hb' hb3)) h.below h.bsz (fun _ _ hs => .inl hs) h.slt
      exact hR.put o.dst (av := .undef) trivial
  · obtain ⟨b, cap, hm, rfl⟩ := had hp
    obtain ⟨hpos, hA⟩ := hO
    rw [hm] at hA
    have hA0 := hA
    obtain ⟨hB, cur, ty, hh, hsz, hlc, hmx, hf, he, hS, hS2⟩ := hA
    have hnoS : ∀ off, ¬ G.S b off := fun off hs => by have := (hS off hs).1; cases this
    have hs1 : (Sch.int k).size = 1 := rfl
    have hfit : lo + (xs.length - lo) ≤ cur.size := by rw [hsz, hs1]; omega
    have hst := run_storeCells_at P b lo ty (List.replicate (xs.length - lo) (Value.int k z)) 0 cur w hh (by simpa using hfit) (fun v hv' => by rw [List.eq_of_mem_replicate hv']; rfl)
    refine ⟨_, G, w.setRow b (spliceV cur.toList lo (List.replicate (xs.length - lo) (.int k z))).toArray, run _ ?_, ?_⟩
    · unfold Builtin.clear_
      obtain ⟨m, hm'⟩ : ∃ m, xs.length - lo = m + 1 := ⟨xs.length - lo - 1, by omega⟩
      rw [hm'] at hxv hst ⊢
      simp only [hat, hargs, hxv, Sem.run_bind, run_underlying hu w, Result.andThen_ok, hzr, hzl, hs1, Nat.mul_one]
      rw [hst]
      simp [spliceV]
    · have hR := row_rel h (p := ob) (ob := .arr .uniq ver (.int k) xs) (ob' := .arr .uniq ver (.int k) (xs.take lo ++ List.replicate (xs.length - lo) z)) (b := b) (cp := cap) (cur := cur) (ty := ty) (new := (spliceV cur.toList lo (List.replicate (xs.length - lo) (.int k z))).toArray) σ.dt (ob :: σ.dob) hob hm hh hnoS hB
        ⟨.uniq, ver, _, rfl, rfl, Nat.le_refl _, fun _ => rfl, fun _ => ⟨rfl, hlen⟩⟩ (fun look' hx' hk => by
          refine ⟨hpos, ?_⟩
          rw [hm]
          refine ⟨hB, _, ty, setRow_heap w b cur _ ty _ hh, ?_, by rw [hlen]; exact hlc, hmx, fun q e => by rw [hlen]; exact hf q e, fun i y hy => ?_, fun off hs => (hnoS off hs).elim, fun e => by cases e⟩
          · simp [spliceV_length (show lo + (List.replicate (xs.length - lo) (Value.int k z)).length ≤ cur.toList.length by simpa using hfit)]
            exact hsz
          · refine ⟨[.int k y], rfl, fun j u huj => ?_⟩
            cases j with
            | succ j => simp at huj
            | zero =>
              simp only [List.getElem?_cons_zero, Option.some.injEq] at huj
              subst huj
              simp only [List.getElem?_toArray, hs1, Nat.mul_one, Nat.add_zero]
              rw [spliceV_get _ _ _ (by simpa using hfit), List.length_replicate]
              rcases hlist i y hy with ⟨hi, hxi⟩ | ⟨h1, h2, rfl⟩
              · rw [if_neg (by omega)]
                obtain ⟨ws, hd, hw⟩ := he i y hxi
                have hd : ws = [.int k y] := hd
                subst hd
                have := hw 0 _ rfl
                simpa [hs1] using this
              · rw [if_pos (by omega), List.getElem?_replicate, if_pos (by omega)])
      exact hR.put o.dst (av := .undef) trivial

theorem op_spec (h : Rel B w0 S0 G outs σ a w) {own : List Nat} {site : Nat} {q : Bool × AV × List (Nat × Ob)} (he : specF P own site σ o = some q) (hq : q.1 = true) :
    ∃ u G' w', Done P o a w u w' ∧ Rel B w0 S0 G' outs (appEff o.dst σ q.2.1 q.2.2) (a.put o.dst u) w' := by
  unfold specF at he
  split at he
  · rename_i t x hi ho
    split at he
    · cases he
    split at he
    · rename_i e k n hel hn
      split at he
      · rename_i hn0
        subst hn0
        have hu : P.underlying t = some (.slice e) := by
          unfold elemT at hel
          split at hel
          · rename_i e' hu; rw [hu]; simp at hel; rw [hel]
          · cases hel
        have hhi : a.eval hi = .int k 0 := by have := ev_rel h hi; rw [hn] at this; exact this
        have key : ∀ (ad : Option Addr) (len cap : Nat), elOk P e = true → a.eval x = .slice ad len cap → (execOp a.eval o).run P w = .ok (.value (.slice (if cap = 0 then ad else ad.map (·.add 0)) 0 cap)) w := by
          intro ad len cap hok hx
          obtain ⟨hinf, hsz⟩ := elOk_parts hok
          have hb := bounds_run (P := P) (w := w) (isSl := true) (len := 0) (cap := cap) (low := none) (high := some (.int k 0)) (l := 0) (h := 0) (.inl ⟨rfl, rfl⟩) (.inr ⟨k, rfl⟩) (by omega) (by omega) (by omega) (by omega)
          have hb : (Instr.sliceBounds true len cap none (some (.int k 0)) none).run P w = .ok (0, 0, cap) w := by
            have e0 : (Instr.sliceBounds true len cap none (some (.int k 0)) none) = (Instr.sliceBounds true 0 cap none (some (.int k 0)) none) := rfl
            rw [e0]; exact hb
          unfold execOp
          simp only [ho, hx, hhi, Option.map_none, Option.map_some, Instr.sliceAt, Instr.slice, Sem.run_bind, run_underlying hu w, hb, Result.andThen_ok, size_run hinf w, Sem.run_pure]
          simp
        split at he
        · rename_i hx
          split at he
          · rename_i hok
            obtain rfl := Option.some.inj he
            have hv : a.eval x = .slice none 0 0 := by have := ev_rel h x; rw [hx] at this; exact this
            refine ⟨.slice none 0 0, G, w, .inl ?_, h.put o.dst (av := .nils) rfl⟩
            rw [key none 0 0 hok hv]
            rfl
          · cases he
        · rename_i ob ver hx
          split at he
          · rename_i ver' s xs hob
            split at he
            · rename_i hc
              obtain ⟨hver, hok⟩ := hc
              obtain rfl := Option.some.inj he
              subst hver
              have hv := ev_rel h x
              rw [hx] at hv
              obtain ⟨_, m2, ver2, s2, xs2, hob2, hmf2, _, hrv⟩ := hv
              have hob2 : lk ob σ.sto = some (.arr m2 ver2 s2 xs2) := hob2
              rw [hob] at hob2
              simp only [Option.some.injEq, Ob.arr.injEq] at hob2
              obtain ⟨rfl, rfl, rfl, e2⟩ := hob2
              have e3 := eq_of_heq e2
              subst e3
              have hrv := hrv rfl
              have hO := h.obj ob _ hob
              have hR := h.upd1 (G' := G) rfl ob (.arr .uniq (ver + 1) s []) σ.dt (ob :: σ.dob) (Keeps.refl _ _) (fun _ _ _ _ => rfl) (fun _ _ _ _ _ _ _ => ⟨rfl, fun _ hs => hs⟩)
                (by rw [hob]; exact ⟨.uniq, ver + 1, [], rfl, rfl, by omega, fun e => (e rfl).elim, fun e => by omega⟩)
                ⟨hO.1, by
                  have hO2 := hO.2
                  revert hO2
                  cases G.M ob with
                  | none => intro _; exact ⟨rfl, rfl⟩
                  | some q =>
                    obtain ⟨b, cap⟩ := q
                    intro hO2
                    obtain ⟨a1, vs, ty, a2, a3, a4, a5, a6, a7, a8, a9⟩ := hO2
                    exact ⟨a1, vs, ty, a2, a3, by simp, a5, fun k e => (by cases e), fun i y hy => (by simp at hy), fun off hs => (by have := (a8 off hs).1; cases this), fun e => (by cases e)⟩⟩
                (fun p' ob' b' c' c3 e' hp' hb' hb3 => e' (h.inj p' ob ob' _ b' c' c3 hp' hob hb' hb3)) h.below h.bsz (fun _ _ hs => .inl hs) h.slt
              cases hM : G.M ob with
              | none =>
                rw [hM] at hrv
                obtain ⟨_, hv⟩ := hrv
                refine ⟨.slice none 0 0, G, w, .inl ?_, hR.put o.dst (av := .ref ob (ver + 1)) ?_⟩
                · rw [key none 0 0 hok hv]; rfl
                · exact refV_ref (n := 0) (xs := ([] : List s.D)) (s := s) (m := .uniq) trivial (by simp [lks, lk_ups]) rfl rfl (by simp [RefV, hM])
              | some q =>
                obtain ⟨b, cap⟩ := q
                rw [hM] at hrv
                simp only [RefV] at hrv
                refine ⟨.slice (some ⟨b, 0, none⟩) 0 cap, G, w, .inl ?_, hR.put o.dst (av := .ref ob (ver + 1)) ?_⟩
                · rw [key _ _ cap hok hrv]
                  congr 2
                  split <;> simp [addr_add]
                · exact refV_ref (n := 0) (xs := ([] : List s.D)) (s := s) (m := .uniq) trivial (by simp [lks, lk_ups]) rfl rfl (by simp [RefV, hM])
            · cases he
          · cases he
        · cases he
      · cases he
    · cases he
  · rename_i t x lo ho
    split at he
    · cases he
    split at he
    · rename_i e k n ob ver hel hn hx
      split at he
      · rename_i ver' s xs hob
        split at he
        · rename_i hc
          obtain ⟨hver, hok, hsz⟩ := hc
          obtain rfl := Option.some.inj he
          subst hver
          simp only [decide_eq_true_eq] at hq
          have hu := elemT_under hel
          obtain ⟨hinf, _⟩ := elOk_parts hok
          have hlo : a.eval lo = .int k n := by have := ev_rel h lo; rw [hn] at this; exact this
          have hv := ev_rel h x
          rw [hx] at hv
          obtain ⟨_, m2, ver2, s2, xs2, hob2, _, _, hrv⟩ := hv
          have hob2 : lk ob σ.sto = some (.arr m2 ver2 s2 xs2) := hob2
          rw [hob] at hob2
          simp only [Option.some.injEq, Ob.arr.injEq] at hob2
          obtain ⟨rfl, rfl, rfl, e2⟩ := hob2
          have e3 := eq_of_heq e2
          subst e3
          have hrv := hrv rfl
          have key : ∀ (ad : Option Addr) (cap : Nat), a.eval x = .slice ad xs.length cap → xs.length ≤ cap → (execOp a.eval o).run P w = .ok (.value (.slice (if cap - n.toNat = 0 then ad else ad.map (·.add (n.toNat * s.size))) (xs.length - n.toNat) (cap - n.toNat))) w := by
            intro ad cap hxv hle
            have hb := bounds_run (P := P) (w := w) (isSl := true) (len := xs.length) (cap := cap) (low := some (.int k n)) (high := none) (l := n) (h := xs.length) (.inr ⟨k, rfl⟩) (.inl ⟨rfl, rfl⟩) (by omega) (by omega) (by omega) hle
            unfold execOp
            simp only [ho, hxv, hlo, Option.map_none, Option.map_some, Instr.sliceAt, Instr.slice, Sem.run_bind, run_underlying hu w, hb, Result.andThen_ok, size_run hinf w, Sem.run_pure, hsz]
            simp
            split <;> split <;> first | rfl | omega
          have hO := h.obj ob _ hob
          cases hM : G.M ob with
          | none =>
            rw [hM] at hrv
            obtain ⟨h0, hv⟩ := hrv
            refine ⟨_, G, w, .inl (key none 0 (by rw [h0]; exact hv) (by omega)), h.put o.dst (av := .vw ob ver n.toNat) ⟨by simp [Leaf], _, _, _, _, hob, Nat.le_refl _, fun _ => ⟨by omega, _, _, rfl, fun hp => by omega⟩⟩⟩
          | some q =>
            obtain ⟨b, cap⟩ := q
            rw [hM] at hrv
            simp only [RefV] at hrv
            have hle : xs.length ≤ cap := by
              have := hO.2
              rw [hM] at this
              obtain ⟨_, vs, ty, _, _, h5, _⟩ := this
              exact h5
            refine ⟨_, G, w, .inl (key _ cap hrv hle), h.put o.dst (av := .vw ob ver n.toNat) ⟨by simp [Leaf], _, _, _, _, hob, Nat.le_refl _, fun _ => ⟨by omega, _, _, rfl, fun hp => ⟨b, cap, hM, ?_⟩⟩⟩⟩
            rw [if_neg (by omega)]
            simp [addr_add]
        · cases he
      · cases he
    · cases he
  · rename_i c ho
    split at he
    · rename_i hc
      split at he
      · rename_i t x ht hxl
        split at he
        · rename_i e ob ver lo hel hx
          split at he
          · rename_i ver' k xs hob
            split at he
            · rename_i k' z hz
              split at he
              · rename_i hcc
                obtain ⟨rfl, rfl⟩ := hcc
                obtain rfl := Option.some.inj he
                exact clear_spec h ho hc ht hxl hel hx hob hz
              · cases he
            · cases he
          · cases he
        · cases he
      · cases he
    · rename_i hc
      split at he
      · rename_i t x ht hx
        split at he
        · rename_i e hel hn
          obtain rfl := Option.some.inj he
          have hu : P.underlying t = some (.slice e) := by
            unfold elemT at hel
            split at hel
            · rename_i e' hu; rw [hu]; simp at hel; rw [hel]
            · cases hel
          have hv : a.eval x = .slice none 0 0 := by have := ev_rel h x; rw [hn] at this; exact this
          exact ⟨.int .i64 0, G, w, .inl (cap_nil hc ho ht hx hu hv), h.put o.dst (av := .int .i64 0) rfl⟩
        · cases he
      · cases he
    · rename_i hc
      split at he
      · rename_i t t' x y ht hx
        split at he
        · rename_i k n hxe hye
          split at he
          · rename_i e kn hel hu'
            split at he
            · rename_i z hzz
              split at he
              · rename_i hcond
                obtain ⟨hok, hpos, hby, hsite⟩ := hcond
                obtain rfl := Option.some.inj he
                simp only [Bool.and_eq_true, decide_eq_true_eq] at hq
                have hu : P.underlying t = some (.slice e) := by
                  unfold elemT at hel
                  split at hel
                  · rename_i e' hu; rw [hu]; simp at hel; rw [hel]
                  · cases hel
                have hcc : c = { callee := .builtin .append, args := #[x, y], argTypes := #[t, t'] } := by
                  obtain ⟨c1, c2, c3⟩ := c
                  simp only at hc ht hx
                  subst hc
                  congr
                  · exact Array.ext' (by simpa using hx)
                  · exact Array.ext' (by simpa using ht)
                obtain ⟨zs, hzs, hzd⟩ := Option.bind_eq_some_iff.1 hzz
                exact op_zeros h (by rw [ho, hcc]) hu hu' hxe hye hzs hzd hok hpos hby hsite hq.1 hq.2
              · cases he
            · cases he
          · cases he
        · cases he
      · cases he
    · cases he
  · rename_i fv first cap ho
    split at he
    · cases he
    split at he
    · rename_i f x hfst hcap
      split at he
      · rename_i p hx
        split at he
        · rename_i fz cs hp
          split at he
          · rename_i q' hq'
            obtain rfl := Option.some.inj he
            obtain ⟨G', hR⟩ := clo_frz h ho hfst hcap hx hp hq'
            exact ⟨_, G', w, .inl hR.1, hR.2⟩
          · cases he
        · cases he
      · cases he
    · cases he
  · cases he

theorem nilF_parts {σ : St} {o : Oper} {own : List Nat} {site : Nat} {q : Nat × Bool} (h : nilF P own site σ o = some q) :
    ∃ (op : BinOp) (t : TypeId) (x y : Operand) (t' : TypeId) (ex : Bool) (s : Sch) (xs : List s.D) (el : TypeId), o.op = .binOp op t x y t' ∧ ev σ.tm x = .sl ex s xs ∧ ev σ.tm y = .nils ∧ P.underlying t = some (.slice el) ∧ ((op = .eql ∧ q.2 = true) ∨ (op = .neq ∧ q.2 = false)) ∧ q.1 = xs.length := by
  unfold nilF at h
  split at h
  · rename_i op t x y t' ho
    split at h
    · cases h
    · split at h
      · rename_i el ex s xs hel hx hy
        obtain rfl := Option.some.inj h
        exact ⟨.eql, t, x, y, t', ex, s, xs, el, ho, hx, hy, elemT_under hel, .inl ⟨rfl, rfl⟩, rfl⟩
      · rename_i el ex s xs hel hx hy
        obtain rfl := Option.some.inj h
        exact ⟨.neq, t, x, y, t', ex, s, xs, el, ho, hx, hy, elemT_under hel, .inr ⟨rfl, rfl⟩, rfl⟩
      · cases h
  · cases h

theorem nextF_parts {σ : St} {o : Oper} {q mo ver : Nat} {ks vs : Sch} {left cur : List (ks.D × vs.D)} (h : nextF σ o = some (q, .it mo ver ks vs left cur)) :
    ∃ (x : Operand) (ka va : Bool) (ks' vs' : Sch) (xs : List (ks'.D × vs'.D)), o.op = .next x false ∧ ev σ.tm x = .hnd false q ∧ lk q σ.sto = some (.it mo ver ks vs left cur) ∧ lk mo σ.sto = some (.map ver ka va ks' vs' xs) := by
  unfold nextF at h
  split at h
  · rename_i x ho
    split at h
    · rename_i p hx
      split at h
      · rename_i mo' ver0 ks0 vs0 left0 cur0 hp
        split at h
        · rename_i ver' ka va ks' vs' xs hmo
          split at h
          · rename_i hv
            subst hv
            simp only [Option.some.injEq, Prod.mk.injEq] at h
            obtain ⟨rfl, h⟩ := h
            rw [h] at hp
            simp only [Ob.it.injEq] at h
            obtain ⟨rfl, rfl, _⟩ := h
            exact ⟨x, ka, va, ks', vs', xs, ho, hx, hp, hmo⟩
          · simp at h
        · simp at h
      · simp at h
    · simp at h
  · simp at h

/-- A call that turns a slice in place. -/
theorem op_ip (hP : ProgOK P) (hE : EnvOK P E) (h : Rel B w0 S0 G outs σ a w) {q : Prop × Nat × Ob} (he : ipF E σ o = some q) (hq : q.1)
    (hk : ∀ v w', Rel B w0 S0 G outs (appEff o.dst σ .undef [(q.2.1, q.2.2)]) (a.put o.dst v) w' → K (a.put o.dst v) w') : o.wp P a w K Q := by
  unfold ipF at he
  split at he
  · rename_i c ho
    split at he
    · rename_i fv hc
      split at he
      · rename_i x y hxy
        split at he
        · rename_i f ob ver g hf hx hy
          split at he
          · rename_i en hen
            split at he
            · rename_i q' hip
              split at he
              · rename_i ver' s xs hob
                split at he
                · rename_i hs
                  subst hs
                  split at he
                  · rename_i hc2
                    obtain ⟨rfl, rfl⟩ := hc2
                    obtain rfl := Option.some.inj he
                    obtain ⟨⟨fn, hfn, hb⟩, _, hI, _⟩ := hE f _ hen
                    have hI := hI q' hip
                    have hvf := ev_rel h fv
                    rw [hf] at hvf
                    obtain ⟨caps, hvf, hcaps⟩ := hvf
                    have hc0 : caps.toList = [] := by
                      cases hl : caps.toList with
                      | nil => rfl
                      | cons _ _ => rw [hl] at hcaps; exact hcaps.elim
                    have hvy := ev_rel h y
                    rw [hy] at hvy
                    obtain ⟨caps2, hvy, hcaps2⟩ := hvy
                    have hc2 : caps2 = #[] := by
                      cases hl : caps2.toList with
                      | nil => exact Array.ext' (by rw [hl])
                      | cons _ _ => rw [hl] at hcaps2; exact hcaps2.elim
                    subst hc2
                    have hr := enter_run (w := w) hP ho hc hvf hfn hb
                    rw [hc0, List.append_nil, hxy] at hr
                    have hvx := ev_rel h x
                    rw [hx] at hvx
                    obtain ⟨_, m2, ver2, s2, xs2, hob2, _, _, hrv⟩ := hvx
                    have hob2 : lk ob σ.sto = some (.arr m2 ver2 s2 xs2) := hob2
                    rw [hob] at hob2
                    simp only [Option.some.injEq, Ob.arr.injEq] at hob2
                    obtain ⟨rfl, rfl, rfl, e2⟩ := hob2
                    have e3 := eq_of_heq e2
                    subst e3
                    have hrv := hrv rfl
                    have hO := h.obj ob _ hob
                    have hcall := hI G.S w B (G.M ob) xs (a.eval x) h.slt hO.2 hO.1 hrv hq
                    refine wp_enter (args := #[a.eval x, .func (.func q'.g) #[] #[]]) (by rw [hr]; simp [hvy]) (Calls.mono hcall fun e w' he => ?_)
                    cases e with
                    | panicked _ => exact he.elim
                    | outgrown => exact he.elim
                    | returned v =>
                      obtain ⟨hbel, hA', hlen⟩ := he
                      refine hk v w' ?_
                      have hnoS : ∀ b c, G.M ob = some (b, c) → ∀ off, ¬ G.S b off := fun b c hm off hs => by
                        have hA := hO.2
                        rw [hm] at hA
                        obtain ⟨_, vs, ty, _, _, _, _, _, _, h8, _⟩ := hA
                        have := (h8 off hs).1
                        cases this
                      have hB : ∀ b c, G.M ob = some (b, c) → ¬ B b := fun b c hm => by
                        have hA := hO.2
                        rw [hm] at hA
                        exact hA.1
                      have hkp : Keeps G.S w G.S w' := fun b' o' hs => ⟨hs, World.cell?_of_block (hbel.block b' ⟨h.slt b' o' hs, fun b c hm e => by subst e; exact hnoS _ c hm o' hs⟩)⟩
                      have hR := h.upd1 (G' := G) (w' := w') rfl ob (.arr .uniq ver' q'.s (q'.fn xs)) σ.dt (ob :: σ.dob) hkp (fun _ _ _ _ => rfl)
                        (fun p' ob' b' c' e' hp' hb' => ⟨hbel.block b' ⟨(h.obj p' ob' hp').lt hb', fun b c hm e => by subst e; exact e' (h.inj p' ob ob' _ b' c' c hp' hob hb' hm)⟩, fun _ hs => hs⟩)
                        (by rw [hob]; exact ⟨.uniq, ver', _, rfl, rfl, Nat.le_refl _, fun _ => rfl, fun _ => ⟨rfl, hlen⟩⟩)
                        ⟨hO.1, hA'⟩
                        (fun p' ob' b' c' c3 e' hp' hb' hb3 => e' (h.inj p' ob ob' _ b' c' c3 hp' hob hb' hb3))
                        (h.below.trans (hbel.mono fun k hBk => ⟨h.bsz k hBk, fun b c hm e => by subst e; exact hB _ c hm hBk⟩))
                        (fun b hb => Nat.lt_of_lt_of_le (h.bsz b hb) hbel.size) (fun _ _ hs => .inl hs) (fun b o hs => Nat.lt_of_lt_of_le (h.slt b o hs) hbel.size)
                      exact hR.put o.dst (av := .undef) trivial
                  · cases he
                · cases he
              · cases he
            · cases he
          · cases he
        · cases he
      · cases he
    · cases he
  · cases he

theorem DR.anyS {S S' : Cells} {w w' : World} : ∀ {s : Sch} {x : s.D} {vs : List Value}, s.flat = true → DR S w s x vs → DR S' w' s x vs
  | .unit, _, _, _, h => h
  | .int _, _, _, _, h => h
  | .bool, _, _, _, h => h
  | .str, _, _, _, h => h
  | .sl _, _, _, hf, _ => by cases hf
  | .pair a b, x, vs, hf, h => by
    simp only [Sch.flat, Bool.and_eq_true] at hf
    obtain ⟨l, r, e, h1, h2⟩ := h
    exact ⟨l, r, e, DR.anyS hf.1 h1, DR.anyS hf.2 h2⟩
theorem TyV.anyS {S S' : Cells} {w w' : World} {t : Ty} {x : t.2.D} {v : Value} (hf : t.2.flat = true) (h : TyV S w t x v) : TyV S' w' t x v := by
  obtain ⟨ag, s⟩ := t
  cases ag with
  | true =>
    obtain ⟨vs, e, h⟩ := h
    exact ⟨vs, e, DR.anyS hf h⟩
  | false =>
    have h : DR S w s x [v] := h
    exact DR.anyS hf h
theorem TysV.anyS {S S' : Cells} {w w' : World} : ∀ {l : List Ty} {x : (tyS l).D} {vs : List Value}, (l.all fun t => t.2.flat) = true → TysV S w l x vs → TysV S' w' l x vs
  | [], _, _, _, h => h
  | [t], x, vs, hf, h => by
    simp only [List.all_cons, List.all_nil, Bool.and_true] at hf
    obtain ⟨v, e, h⟩ := h
    exact ⟨v, e, TyV.anyS hf h⟩
  | t :: t' :: r, x, vs, hf, h => by
    rw [List.all_cons, Bool.and_eq_true] at hf
    obtain ⟨v, vs', e, h1, h2⟩ := h
    exact ⟨v, vs', e, TyV.anyS hf.1 h1, TysV.anyS hf.2 h2⟩
/-- A call that returns no slices. -/
theorem op_bor (hP : ProgOK P) (hE : EnvOK P E) (h : Rel B w0 S0 G outs σ a w) {q : Option Prop × AV} (he : borF E σ o = some q) (hq : preH q.1)
    (hk : ∀ v w', Rel B w0 S0 G outs (appEff o.dst σ q.2 []) (a.put o.dst v) w' → K (a.put o.dst v) w') : o.wp P a w K Q := by
  unfold borF at he
  split at he
  · rename_i c ho
    split at he
    · rename_i fv hc
      split at he
      · rename_i en hcal
        split at he
        · rename_i hf
          split at he
          · rename_i x hx
            obtain rfl := Option.some.inj he
            obtain ⟨en, avs⟩ := en
            have hl : ∃ l, frzOps σ c.args.toList = Pi.frz l σ := ⟨_, rfl⟩
            obtain ⟨l, hl⟩ := hl
            rw [hl] at hx
            obtain ⟨G1, h1, _⟩ := h.frzX l
            have htm := frz_tm l σ
            refine op_call hP hE h1 ho hc (by rw [htm]; exact hcal) hx hq fun v w' hret _ _ => ?_
            obtain ⟨hbel, S', _, _, _, vs, hvs, rfl⟩ := hret
            have hR := h.called hbel (S' := G.S) (fun _ _ h => h) (fun _ _ h => .inl h) (fun b o hs => Nat.lt_of_lt_of_le (h.slt b o hs) hbel.size)
            exact hk _ _ (hR.put o.dst (encRes_rel (G := G) (TysV.anyS hf hvs)))
          · cases he
        · cases he
      · cases he
    · cases he
  · cases he

theorem stepO_sound (hP : ProgOK P) (hE : EnvOK P E) (hI : InlOK P inl) (hY : YsOK P S0 C outs Y) {site : Nat} {k : St → Prop} (h : RX C S0 G outs σ a w) (hs : stepO P E own (inl Y) Y site o σ k)
    (hk : ∀ v σ' G' w', Pres σ σ' → RX C S0 G' outs σ' (a.put o.dst v) w' → k σ' → K (a.put o.dst v) w') : o.wpIn (Fw ro) n P a w K Q := by
  have hnd : ∀ c, o.op ≠ .defer c := fun c e => by simp [stepO, ipF, borF, nilF, specF, opF, oPick, oAlloc, oBox, oLoad, oStore, oFieldAddr, oIndexAddr, oIndex, oField, oBinOp, oUnOp, oConvert, oBuild, oBuildSlice, oExtract, oMakeFunc, oMakeSlice, oSlice, oCall, oMakeMap, oMapUpdate, oLookup, oRange, oSliceToArrayPointer, oNilCheck, oEntry, oBinInt, oBinBool, oBinStr, oBinAgg, oBinSl, oBinNil, oClen, oCappend, oCmax, oCmin, oCvalue, sliceArr, nextF, frzFor, e] at hs
  unfold stepO at hs
  split at hs
  · rename_i q hq
    obtain ⟨F, w1, hR0, hclose⟩ := h.use
    exact wpIn_of_wp hnd (op_ip hP hE hR0 hq hs.1 fun v w' hR => hk v _ G w' (Pres.eff σ o.dst .undef [(q.2.1, q.2.2)]) (hclose _ _ _ _ hR (put_defers _ _ _) rfl) hs.2)
  split at hs
  · rename_i q hq
    obtain ⟨F, w1, hR0, hclose⟩ := h.use
    obtain ⟨hpre, hs⟩ := withPre_iff.1 hs
    exact wpIn_of_wp hnd (op_bor hP hE hR0 hq hpre fun v w' hR => hk v _ G w' (Pres.eff σ o.dst q.2 []) (hclose _ _ _ _ hR (put_defers _ _ _) rfl) hs)
  split at hs
  · rename_i q hq
    obtain ⟨F, w1, hR0, hclose⟩ := h.use
    obtain ⟨op, t, x, y, t', ex, s, xs, el, ho, hx, hy, hu, hop, hn⟩ := nilF_parts hq
    obtain ⟨b, hd, hb⟩ := op_nilAny hR0 ho hx hy hu hop
    refine wpIn_of_wp hnd ?_
    have hR := hR0.put o.dst (av := .bool b) (v := .bool b) rfl
    unfold Oper.wp
    rw [hd]
    refine hk _ _ G w (Pres.eff σ o.dst (.bool b) []) (hclose _ _ _ _ hR (put_defers _ _ _) rfl) ?_
    rcases hb with ⟨rfl, hb⟩ | rfl
    · exact hs.1 (hn.trans hb)
    · exact hs.2
  split at hs
  · rename_i q hq
    obtain ⟨F, w1, hR0, hclose⟩ := h.use
    obtain ⟨hc, hs⟩ := br_no hs
    obtain ⟨u, G', w', hd, hR⟩ := op_spec hR0 hq hc
    refine wpIn_of_wp hnd ?_
    rcases hd with hd | ⟨hd, rfl⟩
    · unfold Oper.wp; rw [hd]; exact hk u _ G' w' (Pres.eff σ o.dst q.2.1 q.2.2) (hclose _ _ _ _ hR (put_defers _ _ _) rfl) hs
    · unfold Oper.wp; rw [hd]; exact hk Go.undef _ G' w' (Pres.eff σ o.dst q.2.1 q.2.2) (hclose _ _ _ _ hR (put_defers _ _ _) rfl) hs
  obtain ⟨l, hl⟩ := frzFor_eq E σ o
  rw [hl] at hs
  obtain ⟨G1, h1⟩ := h.frz l
  have hpr := Pres.frz l σ
  revert h1 hpr hs
  generalize Pi.frz l σ = σ1
  intro hs h1 hpr
  obtain ⟨F, w1, hR0, hclose⟩ := h1.use
  simp only at hs
  split at hs
  · rename_i e he
    obtain ⟨hc, hs⟩ := br_no hs
    obtain ⟨hpre, hs⟩ := withPre_iff.1 hs
    exact wpIn_of_wp hnd (opF_sound hP hE hR0 he hc hpre fun v w' G' hR hroom => hk v _ G' w' (hpr.trans (Pres.eff σ1 o.dst e.val e.upd)) (hclose _ _ _ _ hR (put_defers _ _ _) rfl) (br_true hroom hs))
  · rename_i hnone
    split at hs
    · rename_i c ho
      split at hs
      · rename_i fv hcal
        split at hs
        · rename_i f cap hf
          obtain ⟨⟨fn, hfn, hb⟩, hI⟩ := hI C S0 outs Y site f _ σ1 _ hs
          have hv := ev_rel hR0 fv
          rw [hf] at hv
          obtain ⟨caps, hv, hcaps⟩ := hv
          have hr := enter_run (w := w) hP ho hcal hv hfn hb
          refine wpIn_of_wp hnd (wp_enter hr (hI G1 a w _ _ (hY.sub (Sub.push (fun _ => rfl) _)) h1 ((evs_rel hR0 c.args.toList).append (caps_vr hcaps)) fun av v σ' G' w' hkk hp hR hV => ?_))
          obtain ⟨F', w1', hR2, hclose2⟩ := hR.use
          exact hk v _ G' w' (hpr.trans (hp.trans (Pres.put σ' o.dst av))) (hclose2 _ _ _ _ (hR2.put o.dst hV) (put_defers _ _ _) rfl) hkk
        · rename_i i hf
          unfold ylk at hs
          cases hyl : ylo i Y with
          | none => rw [hyl] at hs; exact hs.elim
          | some hd =>
            rw [hyl] at hs
            obtain ⟨C0, outs0, b, r, hsub, e1, e2, hH⟩ := hY i hd hyl
            obtain ⟨e1, e3⟩ := hsub.Y i b e1
            rw [← e3] at e2
            obtain ⟨hsz, hround⟩ := hH C outs site _ σ1 _ hsub hs G1 a w _ (fun
              | .returned v, w'' => K (a.put o.dst v) w''
              | .panicked chain, w'' => Q (.panic chain) a w''
              | .outgrown, _ => LetsOut Q) h1 (evs_rel hR0 c.args.toList) (fun av v σ' G' w' hkk hp hR hV => by
                obtain ⟨F', w1', hR2, hclose2⟩ := hR.use
                exact hk v _ G' w' (hpr.trans (hp.trans (Pres.put σ' o.dst av))) (hclose2 _ _ _ _ (hR2.put o.dst hV) (put_defers _ _ _) rfl) hkk)
            obtain ⟨F', w1', hR2, hH2⟩ := h1
            obtain ⟨s, hls⟩ := hH2.ydom i b e1
            obtain ⟨b', r', e1', e2', hFb, hBb, hbk⟩ := hH2.lps i s hls
            rw [e1] at e1'
            rw [e2] at e2'
            simp only [Option.some.injEq] at e1' e2'
            subst e1' e2'
            have hv := ev_rel hR2 fv
            rw [hf] at hv
            have hv2 := hv.2 b (by rw [hR2.yeq]; exact e1)
            have hrun := run_yield_call (P := P) (r := r) ho hcal hv2 ((hR2.below.block b hFb).trans hbk) (by cases s <;> exact ⟨rfl, rfl, rfl, rfl, rfl⟩) hsz
            refine ⟨fun _ _ => trivial, ?_⟩
            rw [Oper.semAt_eq _ _ _ hnd, hrun]
            exact ⟨fun e => (by cases e), ⟨trivial, fun c cs _ => hround.2 c cs (fun _ e => by cases e)⟩⟩
        · exact hs.elim
      · exact hs.elim
    · split at hs
      · rename_i q hq
        obtain ⟨u, G', hd, hR⟩ := op_sliceArr hR0 hq
        refine wpIn_of_wp hnd ?_
        rcases hd with hd | ⟨hd, rfl⟩
        · unfold Oper.wp; rw [hd]; exact hk u _ G' w (hpr.trans (Pres.eff σ1 o.dst q.1 [q.2])) (hclose _ _ _ _ hR (put_defers _ _ _) rfl) hs
        · unfold Oper.wp; rw [hd]; exact hk Go.undef _ G' w (hpr.trans (Pres.eff σ1 o.dst q.1 [q.2])) (hclose _ _ _ _ hR (put_defers _ _ _) rfl) hs
      · split at hs
        · rename_i q mo ver ks vs left cur hq
          obtain ⟨x, ka, va, ks', vs', xs, hox, hx, hp, hmo⟩ := nextF_parts hq
          refine wpIn_of_wp hnd ?_
          rcases op_next hR0 hox hx hp hmo with ⟨h0, hd⟩ | ⟨i, w', v, hi, hd, hv, hR⟩
          · have hs := hs.1 h0
            have hR2 := hR0.put o.dst (av := .tup [.bool false]) (v := .tuple #[.bool false]) ⟨_, rfl, rfl, trivial⟩
            rcases hd with hd | ⟨hd, h2⟩
            · unfold Oper.wp; rw [hd]; exact hk _ _ G1 w (hpr.trans (Pres.eff σ1 o.dst _ [])) (hclose _ _ _ _ hR2 (put_defers _ _ _) rfl) hs
            · cases h2
          · have hs := hs.2 i hi
            have hR2 := hR.put o.dst (av := .tup [.bool true, .undef, .undef]) (v := v) hv
            rcases hd with hd | ⟨hd, rfl⟩
            · unfold Oper.wp; rw [hd]; exact hk v _ G1 w' (hpr.trans (Pres.eff σ1 o.dst _ [(q, .it mo ver ks vs (left.eraseIdx i) (curOf left i))])) (hclose _ _ _ _ hR2 (put_defers _ _ _) rfl) hs
            · unfold Oper.wp; rw [hd]; exact hk Go.undef _ G1 w' (hpr.trans (Pres.eff σ1 o.dst _ [(q, .it mo ver ks vs (left.eraseIdx i) (curOf left i))])) (hclose _ _ _ _ hR2 (put_defers _ _ _) rfl) hs
        · exact hs.elim

/-! ### guards -/
theorem get_lt {tm : Tm} {d : Nat} {v : AV} (h : get tm d = v) (hv : v ≠ .undef) : d < tm.length := by
  rcases Nat.lt_or_ge d tm.length with h1 | h1
  · exact h1
  · exfalso
    apply hv
    rw [← h]
    exact get_ge h1

theorem Tr.set_same {x : AV} (hx : x ≠ .undef) : ∀ (f : Nat) (t : Tr) (n : Nat), n ≤ f → t.get n = x → Tr.setF f t n x = t
  | _, .nil, n, _, e => absurd e.symm hx
  | 0, .node v l r, n, h, e => by
    obtain rfl : n = 0 := by omega
    have e : v = x := e
    subst e; rfl
  | f + 1, .node v l r, n, h, e => by
    rw [Tr.get_node] at e
    show (match Nat.beq n 0 with | true => Tr.node x l r | false => match Nat.beq (Nat.mod n 2) 1 with | true => Tr.node v (Tr.setF f l (Nat.div n 2) x) r | false => Tr.node v l (Tr.setF f r (Nat.sub (Nat.div n 2) 1) x)) = _
    by_cases h0 : n = 0
    · rw [if_pos h0] at e
      subst h0 e
      rfl
    · rw [if_neg h0] at e
      rw [nbf h0]
      by_cases h2 : n % 2 = 1
      · rw [if_pos h2] at e
        rw [show Nat.beq (Nat.mod n 2) 1 = true from Nat.beq_eq ▸ h2]
        show Tr.node v (Tr.setF f l (n / 2) x) r = _
        rw [Tr.set_same hx f l (n / 2) (by omega) e]
      · rw [if_neg h2] at e
        rw [show Nat.beq (Nat.mod n 2) 1 = false from nbf h2]
        show Tr.node v l (Tr.setF f r (n / 2 - 1) x) = _
        rw [Tr.set_same hx f r (n / 2 - 1) (by omega) e]
theorem Tr.setF_eq (x : AV) (f : Nat) (t : Tr) (n : Nat) (h : n ≤ f) : Tr.setF f t n x = if n = 0 then .node x t.left t.right else if n % 2 = 1 then .node t.val (Tr.setF (f - 1) t.left (n / 2) x) t.right else .node t.val t.left (Tr.setF (f - 1) t.right (n / 2 - 1) x) := by
  cases f with
  | zero =>
    obtain rfl : n = 0 := by omega
    rfl
  | succ f =>
    show (match Nat.beq n 0 with | true => Tr.node x t.left t.right | false => match Nat.beq (Nat.mod n 2) 1 with | true => Tr.node t.val (Tr.setF f t.left (Nat.div n 2) x) t.right | false => Tr.node t.val t.left (Tr.setF f t.right (Nat.sub (Nat.div n 2) 1) x)) = _
    by_cases h0 : n = 0
    · subst h0; rfl
    · rw [nbf h0, if_neg h0]
      by_cases h2 : n % 2 = 1
      · rw [if_pos h2, show Nat.beq (Nat.mod n 2) 1 = true from Nat.beq_eq ▸ h2]; rfl
      · rw [if_neg h2, show Nat.beq (Nat.mod n 2) 1 = false from nbf h2]; rfl
theorem Tr.set_comm {x y : AV} : ∀ (f g : Nat) (t : Tr) (n m : Nat), n ≤ f → m ≤ g → n ≠ m → Tr.setF g (Tr.setF f t n x) m y = Tr.setF f (Tr.setF g t m y) n x := by
  intro f
  induction f using Nat.strongRecOn with
  | _ f ih =>
    intro g t n m hn hm hne
    rw [Tr.setF_eq x f t n hn, Tr.setF_eq y g t m hm]
    by_cases n0 : n = 0
    · have m0 : m ≠ 0 := by omega
      subst n0
      rw [if_pos rfl, if_neg m0]
      by_cases m2 : m % 2 = 1
      · rw [if_pos m2, Tr.setF_eq y g _ m hm, if_neg m0, if_pos m2, Tr.setF_eq x f _ 0 hn, if_pos rfl]; rfl
      · rw [if_neg m2, Tr.setF_eq y g _ m hm, if_neg m0, if_neg m2, Tr.setF_eq x f _ 0 hn, if_pos rfl]; rfl
    · rw [if_neg n0]
      by_cases m0 : m = 0
      · subst m0
        rw [if_pos rfl]
        by_cases n2 : n % 2 = 1
        · rw [if_pos n2, Tr.setF_eq y g _ 0 hm, if_pos rfl, Tr.setF_eq x f _ n hn, if_neg n0, if_pos n2]; rfl
        · rw [if_neg n2, Tr.setF_eq y g _ 0 hm, if_pos rfl, Tr.setF_eq x f _ n hn, if_neg n0, if_neg n2]; rfl
      · rw [if_neg m0]
        by_cases n2 : n % 2 = 1
        · rw [if_pos n2]
          by_cases m2 : m % 2 = 1
          · rw [if_pos m2, Tr.setF_eq y g _ m hm, if_neg m0, if_pos m2, Tr.setF_eq x f _ n hn, if_neg n0, if_pos n2]
            show Tr.node t.val (Tr.setF (g - 1) (Tr.setF (f - 1) t.left (n / 2) x) (m / 2) y) t.right = Tr.node t.val (Tr.setF (f - 1) (Tr.setF (g - 1) t.left (m / 2) y) (n / 2) x) t.right
            rw [ih (f - 1) (by omega) (g - 1) t.left (n / 2) (m / 2) (by omega) (by omega) (by omega)]
          · rw [if_neg m2, Tr.setF_eq y g _ m hm, if_neg m0, if_neg m2, Tr.setF_eq x f _ n hn, if_neg n0, if_pos n2]; rfl
        · rw [if_neg n2]
          by_cases m2 : m % 2 = 1
          · rw [if_pos m2, Tr.setF_eq y g _ m hm, if_neg m0, if_pos m2, Tr.setF_eq x f _ n hn, if_neg n0, if_neg n2]; rfl
          · rw [if_neg m2, Tr.setF_eq y g _ m hm, if_neg m0, if_neg m2, Tr.setF_eq x f _ n hn, if_neg n0, if_neg n2]
            show Tr.node t.val t.left (Tr.setF (g - 1) (Tr.setF (f - 1) t.right (n / 2 - 1) x) (m / 2 - 1) y) = Tr.node t.val t.left (Tr.setF (f - 1) (Tr.setF (g - 1) t.right (m / 2 - 1) y) (n / 2 - 1) x)
            rw [ih (f - 1) (by omega) (g - 1) t.right (n / 2 - 1) (m / 2 - 1) (by omega) (by omega) (by omega)]
theorem Tm.set_comm {tm : Tm} {d e : Nat} (x y : AV) (h : d ≠ e) : (tm.set d x).set e y = (tm.set e y).set d x := by
  unfold Tm.set
  dsimp only
  by_cases hd : d < tm.len
  · by_cases he : e < tm.len
    · rw [blt_t hd, blt_t he]
      dsimp only
      rw [Tr.set_comm d e tm.t d e (Nat.le_refl _) (Nat.le_refl _) h]
    · rw [blt_f he, blt_t hd]
  · by_cases he : e < tm.len
    · rw [blt_t he, blt_f hd]
    · rw [blt_f he, blt_f hd]
theorem set_same {tm : Tm} {d : Nat} {v : AV} (hv : v ≠ .undef) (h : get tm d = v) : tm.set d v = tm := by
  have hd := get_lt h hv
  rw [get_in hd] at h
  unfold Tm.set
  rw [blt_t (show d < tm.len from hd)]
  show (⟨tm.len, Tr.setF d tm.t d v⟩ : Tm) = tm
  rw [Tr.set_same hv d tm.t d (Nat.le_refl _) h]

theorem guard_bool (h : Rel B w0 S0 G outs σ a w) {ops : Array Oper} {j d : Nat} (hj : (ops[j]?).bind (·.dst) = some d) {b : Bool} (hb : get σ.tm d = .bool b) : yielded ops a.tmps j = some b := by
  have hlt := get_lt hb (by simp)
  have hv := h.tm d
  rw [hb] at hv
  have hv : a.tmps.getD d Go.undef = .bool b := hv
  have hlt2 : d < a.tmps.size := Nat.lt_of_lt_of_le hlt h.tml
  have : a.tmps[d]? = some (.bool b) := by
    rw [Array.getElem?_eq_getElem hlt2]
    simpa [Array.getD, hlt2] using hv
  simp [yielded, hj, this]

theorem guard_skip (h : Rel B w0 S0 G outs σ a w) {ops : Array Oper} {j d : Nat} (hj : (ops[j]?).bind (·.dst) = some d) (hb : get σ.tm d = .skip) : yielded ops a.tmps j = none := by
  have hlt := get_lt hb (by simp)
  have hv := h.tm d
  rw [hb] at hv
  have hv : a.tmps.getD d Go.undef = Go.undef := hv
  have hlt2 : d < a.tmps.size := Nat.lt_of_lt_of_le hlt h.tml
  have : a.tmps[d]? = some Go.undef := by
    rw [Array.getElem?_eq_getElem hlt2]
    simpa [Array.getD, hlt2] using hv
  simp [yielded, hj, this, Go.undef]


/-- One operation, its guard looked at. -/
theorem goOne_sound (hP : ProgOK P) (hE : EnvOK P E) (hI : InlOK P inl) (hY : YsOK P S0 C outs Y) {path rid : Nat} {ops : Array Oper} {k : St → Prop} {i : Nat} {r : List Oper} {G : Gh} {σ : St} {a : Act} {w : World} (hi : ops[i]? = some o) (h : RX C S0 G outs σ a w)
    (hs : goOps P E own (inl Y) Y path rid ops (o :: r) i σ k) (hk : ∀ σ' G' a' w', Pres σ σ' → RX C S0 G' outs σ' a' w' → goOps P E own (inl Y) Y path rid ops r (i + 1) σ' k → K a' w') : wpOpIn (Fw ro) n P ops Q i K a w := by
  have step : ∀ {σ1 : St}, RX C S0 G outs σ1 a w → Pres σ σ1 → stepQ P E own (inl Y) Y (siteOf path rid i) o σ1 (fun σ' => goOps P E own (inl Y) Y path rid ops r (i + 1) σ' k) → o.wpIn (Fw ro) n P a w K Q := by
    intro σ1 h1 hp1 hs1
    rw [stepQ_eq] at hs1
    exact stepO_sound hP hE hI hY h1 hs1 fun v σ' G' w' hp hR hk' => hk σ' G' _ w' (hp1.trans hp) hR hk'
  have skip : ∀ {σ1 : St}, RX C S0 G outs σ1 a w → Pres σ σ1 → goOps P E own (inl Y) Y path rid ops r (i + 1) (appEff o.dst σ1 .skip []) k → (∀ f, o.about P w a.eval = some f → (Fw ro).fn f) ∧ K (a.put o.dst undef) w := by
    intro σ1 h1 hp1 hs1
    obtain ⟨F, w1, hR0, hclose⟩ := h1.use
    exact ⟨fun _ _ => trivial, hk _ G _ w (hp1.trans (Pres.put σ1 o.dst .skip)) (hclose _ _ _ _ (hR0.put o.dst (av := .skip) rfl) (put_defers _ _ _) rfl) hs1⟩
  unfold wpOpIn
  simp only [hi]
  unfold goOps at hs
  cases hg : o.guard with
  | none =>
    rw [hg] at hs
    simp only [Region.wanted, hg, if_true]
    exact step h (Pres.refl σ) hs
  | some gw =>
    obtain ⟨j, want⟩ := gw
    rw [hg] at hs
    simp only at hs
    split at hs
    · exact hs.elim
    · rename_i d hj
      split at hs
      · rename_i b hb
        obtain ⟨F, w1, hR0, _⟩ := h.use
        have hy := guard_bool hR0 hj hb
        have hset : ∀ c, b = c → ({ σ with tm := σ.tm.set d (.bool c) } : St) = σ := fun c e => by rw [set_same (by simp) (by rw [hb, e])]
        have hwant : Region.wanted o (yielded ops a.tmps) = (b == want) := by simp [Region.wanted, hg, hy]
        rw [hwant]
        cases want with
        | true =>
          simp only at hs
          cases b with
          | true => have hs := br_true rfl hs; rw [hset true rfl] at hs; simp only [beq_self_eq_true, if_true]; exact step h (Pres.refl σ) hs
          | false => have hs := br_false rfl hs; rw [hset false rfl] at hs; simp only [show (false == true) = false from rfl, Bool.false_eq_true, if_false]; exact skip h (Pres.refl σ) hs
        | false =>
          simp only at hs
          cases b with
          | true => have hs := br_true rfl hs; rw [hset true rfl] at hs; simp only [show (true == false) = false from rfl, Bool.false_eq_true, if_false]; exact skip h (Pres.refl σ) hs
          | false => have hs := br_false rfl hs; rw [hset false rfl] at hs; simp only [beq_self_eq_true, if_true]; exact step h (Pres.refl σ) hs
      · rename_i hb
        obtain ⟨F, w1, hR0, _⟩ := h.use
        have hy := guard_skip hR0 hj hb
        have hwant : Region.wanted o (yielded ops a.tmps) = false := by simp [Region.wanted, hg, hy]
        rw [hwant]
        simp only [Bool.false_eq_true, if_false]
        exact skip h (Pres.refl σ) hs
      · exact hs.elim

theorem goOps_sound (hP : ProgOK P) (hE : EnvOK P E) (hI : InlOK P inl) (hY : YsOK P S0 C outs Y) {path rid : Nat} {ops : Array Oper} {k : St → Prop} :
    ∀ (r : List Oper) (i : Nat) {G : Gh} {σ : St} {a : Act} {w : World}, r = ops.toList.drop i → RX C S0 G outs σ a w → goOps P E own (inl Y) Y path rid ops r i σ k →
      (∀ σ' G' a' w', Pres σ σ' → RX C S0 G' outs σ' a' w' → k σ' → Q .normal a' w') → wpOpsIn (Fw ro) n P ops Q (List.range' i r.length) a w
  | [], i, G, σ, a, w, hr, h, hs, hk => hk σ G a w (Pres.refl σ) h hs
  | o :: r, i, G, σ, a, w, hr, h, hs, hk => by
    have hi : ops[i]? = some o := by
      have : (ops.toList.drop i)[0]? = some o := by rw [← hr]; rfl
      simpa using this
    have hr' : r = ops.toList.drop (i + 1) := by
      have : (ops.toList.drop i).drop 1 = r := by rw [← hr]; rfl
      rw [← this, List.drop_drop]
    rw [List.length_cons, List.range'_succ, wpOpsIn_cons]
    exact goOne_sound hP hE hI hY hi h hs fun σ' G' a' w' hp hR hk' => goOps_sound hP hE hI hY r (i + 1) hr' hR hk' fun σ'' G'' a'' w'' hp' => hk σ'' G'' a'' w'' (hp.trans hp')

end
end Go.Pi
end

section
namespace Go.Pi
open Go.RowKit
set_option linter.unusedSimpArgs false
set_option linter.unusedVariables false

section
variable {P : Program} {B : Nat → Prop} {w0 : World} {S0 : Cells} {G G' : Gh} {outs : Outs} {σ : St} {a : Act} {w w' : World} {o : Oper} {look look' : Look}

/-- What a value that is closed may name is as it was. -/
structure Over (G : Gh) (look : Look) (G' : Gh) (look' : Look) (l q : List Nat) : Prop where
  S : G'.S = G.S
  Y : G'.Y = G.Y
  kept : ∀ o, q.contains o = true → look' o = look o ∧ G'.M o = G.M o
  own : ∀ o ob, l.contains o = true → look o = some ob → ob.still → (∃ ob', look' o = some ob' ∧ ob'.still ∧ ∀ m, ob.isH m = true → ob'.isH m = true) ∧ G'.M o = G.M o

theorem Over.ptr {l q : List Nat} (H : Over G look G' look' l q) {o off : Nat} {v : Value} (hl : l.contains o = true) (h : PtrR G look o off v) : PtrR G' look' o off v := by
  obtain ⟨⟨ob, ho, hs⟩, b, c, hm, e⟩ := h
  obtain ⟨⟨ob', h1, h3, _⟩, h2⟩ := H.own o ob hl ho hs
  exact ⟨⟨ob', h1, h3⟩, b, c, h2.trans hm, e⟩

theorem isH_still {m : Bool} {ob : Ob} (h : ob.isH m = true) : ob.still := by
  cases ob <;> first | trivial | (simp [Ob.isH] at h; done)

theorem Over.hnd {l q : List Nat} (H : Over G look G' look' l q) {m : Bool} {o : Nat} {v : Value} (hl : l.contains o = true) (h : HndR G look m o v) : HndR G' look' m o v := by
  obtain ⟨⟨ob, ho, hs⟩, b, c, hm, e⟩ := h
  obtain ⟨⟨ob', h1, _, h3⟩, h2⟩ := H.own o ob hl ho (isH_still hs)
  exact ⟨⟨ob', h1, h3 m hs⟩, b, c, h2.trans hm, e⟩

theorem Over.vr0 {l q : List Nat} (H : Over G look G' look' l q) : ∀ {av : AV} {v : Value}, closed0 l q av = true → VR0 G w look av v → VR0 G' w look' av v := by
  intro av v hc h
  cases av with
  | undef => trivial
  | skip => exact h
  | int k n => exact h
  | bool b => exact h
  | str s => exact h
  | nils => exact h
  | sl ex s xs => exact ⟨by rw [H.S]; exact h.1, h.2⟩
  | ref o ver =>
    obtain ⟨h1, h2⟩ := H.kept o hc
    obtain ⟨hl, m, ver', s, xs, ho, hr⟩ := h
    exact ⟨hl, m, ver', s, xs, h1.trans ho, by rw [h2]; exact hr⟩
  | ptr o off => exact H.ptr hc h
  | ptre o ver i off =>
    obtain ⟨h1, h2⟩ := H.kept o hc
    obtain ⟨hl, m, ver', s, xs, ho, hr⟩ := h
    exact ⟨hl, m, ver', s, xs, h1.trans ho, by rw [h2]; exact hr⟩
  | vw o ver lo =>
    obtain ⟨h1, h2⟩ := H.kept o hc
    obtain ⟨hl, m, ver', s, xs, ho, hr⟩ := h
    exact ⟨hl, m, ver', s, xs, h1.trans ho, by rw [h2]; exact hr⟩
  | pel s xs i off =>
    obtain ⟨hi, b, o0, he, e⟩ := h
    exact ⟨hi, b, o0, by rw [H.S]; exact he, e⟩
  | pix o base s m i off => exact ⟨h.1, H.ptr hc h.2⟩
  | cst u => exact h
  | clo f s c =>
    obtain ⟨vs, b, o0, e, he, e2⟩ := h
    exact ⟨vs, b, o0, e, by rw [H.S]; exact he, e2⟩
  | hnd m o => exact H.hnd hc h
  | yld i => exact ⟨h.1, fun b hb => h.2 b (by rw [← H.Y]; exact hb)⟩
  | fn f cap =>
    obtain ⟨vs, e, ha⟩ := h
    refine ⟨vs, e, ?_⟩
    simp only [closed0, List.all_eq_true] at hc
    have : ∀ (cap : List Nat) (vs : List Value), (∀ x ∈ cap, l.contains x = true) → All2 (fun o v => PtrR G look o 0 v) cap vs → All2 (fun o v => PtrR G' look' o 0 v) cap vs := by
      intro cap
      induction cap with
      | nil => intro vs _ h; cases vs with
        | nil => trivial
        | cons _ _ => exact h.elim
      | cons c r ih => intro vs hx h; cases vs with
        | nil => exact h.elim
        | cons u us => exact ⟨H.ptr (hx c (by simp)) h.1, ih us (fun x hxx => hx x (by simp [hxx])) h.2⟩
    exact this cap vs.toList hc ha
  | agg _ => exact h.elim
  | tup _ => exact h.elim

theorem Over.crs {l q : List Nat} (H : Over G look G' look' l q) : ∀ {cs : List AV} {vs : List Value}, cs.all (closed0 l q) = true → All2 (CR G w look) cs vs → All2 (CR G' w look') cs vs
  | [], [], _, _ => trivial
  | [], _ :: _, _, h => h.elim
  | _ :: _, [], _, h => h.elim
  | c :: r, v :: vs, hc, h => by
    simp only [List.all_cons, Bool.and_eq_true] at hc
    exact ⟨⟨H.vr0 hc.1 h.1.1, h.1.2⟩, H.crs hc.2 h.2⟩

theorem Over.vr1 {l q : List Nat} (H : Over G look G' look' l q) {av : AV} {v : Value} (hc : closed1 l q av = true) (h : VR1 G w look av v) : VR1 G' w look' av v := by
  cases av <;> first
    | (obtain ⟨vs, e, ha⟩ := h; exact ⟨vs, e, H.crs hc ha⟩)
    | (simp only [VR1] at h ⊢; exact H.vr0 hc h)

theorem Over.vr {l q : List Nat} (H : Over G look G' look' l q) {av : AV} {v : Value} (hc : closed l q av = true) (h : VR G w look av v) : VR G' w look' av v := by
  cases av <;> try (simp only [VR] at h ⊢; exact H.vr1 hc h)
  rename_i as
  obtain ⟨vs, e, ha⟩ := h
  refine ⟨vs, e, ?_⟩
  simp only [closed, List.all_eq_true] at hc
  have : ∀ (as : List AV) (vs : List Value), (∀ x ∈ as, closed1 l q x = true) → All2 (VR1 G w look) as vs → All2 (VR1 G' w look') as vs := by
    intro as
    induction as with
    | nil => intro vs _ h; cases vs with
      | nil => trivial
      | cons _ _ => exact h.elim
    | cons c r ih => intro vs hx h; cases vs with
      | nil => exact h.elim
      | cons u us => exact ⟨H.vr1 (hx c (by simp)) h.1, ih us (fun x hxx => hx x (by simp [hxx])) h.2⟩
  exact this as vs.toList hc ha

/-! ### parts of the state at a loop's head -/
theorem extC_rel (hobj : ∀ o ob, look o = some ob → ObR B G w look o ob) {l : List Nat}
    (href : ∀ o ver v, l.contains o = true → isRef look o (.ref o ver) = true → VR0 G w look (.ref o ver) v → VR0 G' w look' (.ref o 0) v)
    (hnil : ∀ o, l.contains o = true → look o = none → ∀ v, v = Value.slice none 0 0 → VR0 G' w look' (.ref o 0) v) (hhnd : ∀ m o v, l.contains o = true → HndR G look m o v → HndR G' look' m o v) (hS : G'.S = G.S) {z : Sch} :
    ∀ {ts : List CTpl} {y0 : z.D} {cs : List AV} {vs : List Value} {y : (schC ts z).D}, All2 (CR G w look) cs vs → extC look l y0 ts cs = some y → All2 (CR G' w look') (mkC ts y).1 vs ∧ (mkC ts y).2 = y0
  | [], y0, cs, vs, y, h, e => by
    cases cs with
    | nil => simp [extC] at e; subst e; cases vs with
      | nil => exact ⟨trivial, rfl⟩
      | cons _ _ => exact h.elim
    | cons _ _ => simp [extC] at e
  | .data s :: r, y0, cs, vs, y, h, e => by
    cases cs with
    | nil => simp [extC] at e
    | cons c cs => cases vs with
      | nil => exact h.elim
      | cons v vs =>
        simp only [extC] at e
        split at e
        · rename_i x y' h1 h2
          simp at e; subst e
          obtain ⟨h3, h4⟩ := extC_rel hobj href hnil hhnd hS h.2 h2
          refine ⟨⟨?_, h3⟩, h4⟩
          have hd : TyV G.S w (false, s) x v := decTy_rel hobj h.1.vr h1
          have hd : DR G.S w s x [v] := hd
          have he : All2 (CR G' w look') (s.enc x) [v] := enc_rel (by rw [hS]; exact hd)
          show CR G' w look' ((s.enc x).headD .undef) v
          cases hh : s.enc x with
          | nil => rw [hh] at he; exact he.elim
          | cons c' r' => rw [hh] at he; exact he.1
        · simp at e
  | .ref o :: r, y0, cs, vs, y, h, e => by
    cases cs with
    | nil => simp [extC] at e
    | cons c cs => cases vs with
      | nil => exact h.elim
      | cons v vs =>
        simp only [extC] at e
        split at e
        · rename_i hc
          simp only [Bool.and_eq_true] at hc
          obtain ⟨h3, h4⟩ := extC_rel hobj href hnil hhnd hS h.2 e
          refine ⟨⟨⟨?_, h.1.2⟩, h3⟩, h4⟩
          obtain ⟨hr, hl⟩ := hc
          cases c <;> simp only [isRef] at hr <;> try (simp at hr; done)
          case ref p ver =>
            simp only [Bool.and_eq_true, beq_iff_eq] at hr
            obtain ⟨rfl, hr⟩ := hr
            exact href p ver v hl (by simp [isRef, hr]) h.1.1
          case nils => exact hnil o hl (by simpa using hr) v h.1.1
        · simp at e
  | .hnd m o :: r, y0, cs, vs, y, h, e => by
    cases cs with
    | nil => simp [extC] at e
    | cons c cs => cases vs with
      | nil => exact h.elim
      | cons v vs =>
        simp only [extC] at e
        split at e
        · rename_i m' o'
          split at e
          · rename_i hc
            simp only [Bool.and_eq_true, decide_eq_true_eq] at hc
            obtain ⟨⟨rfl, rfl⟩, hl⟩ := hc
            obtain ⟨h3, h4⟩ := extC_rel hobj href hnil hhnd hS h.2 e
            exact ⟨⟨⟨hhnd m' o' v hl h.1.1, h.1.2⟩, h3⟩, h4⟩
          · simp at e
        · simp at e

/-- The block of each listed object. -/
noncomputable def mapM (σ : St) (M : Nat → Option (Nat × Nat)) : List (Nat × OTpl) → Nat → Option (Nat × Nat)
  | [], _ => none
  | e :: r, o => if e.1 = o then (match lk (actual1 σ e) σ.sto with
    | none => none
    | some _ => M (actual1 σ e)) else mapM σ M r o

theorem nodup_inj {α : Type} {f : α → Nat} : ∀ {l : List α} {x y : α}, nodupN (l.map f) = true → x ∈ l → y ∈ l → f x = f y → x = y
  | [], x, y, _, h, _, _ => by simp at h
  | a :: r, x, y, hn, hx, hy, e => by
    simp only [List.map_cons, nodupN, Bool.and_eq_true, Bool.not_eq_true', List.contains_eq_mem, decide_eq_false_iff_not] at hn
    rcases List.mem_cons.1 hx with h1 | h1
    · rcases List.mem_cons.1 hy with h2 | h2
      · rw [h1, h2]
      · subst h1; exact (hn.1 (List.mem_map.2 ⟨y, h2, e.symm⟩)).elim
    · rcases List.mem_cons.1 hy with h2 | h2
      · subst h2; exact (hn.1 (List.mem_map.2 ⟨x, h1, e⟩)).elim
      · exact nodup_inj hn.2 h1 h2 e

theorem mapM_mem {M : Nat → Option (Nat × Nat)} : ∀ {obs : List (Nat × OTpl)} {e : Nat × OTpl}, nodupN (obs.map (·.1)) = true → e ∈ obs → mapM σ M obs e.1 = (match lk (actual1 σ e) σ.sto with
    | none => none
    | some _ => M (actual1 σ e))
  | [], e, _, h => by simp at h
  | a :: r, e, hn, h => by
    have hn0 := hn
    simp only [List.map_cons, nodupN, Bool.and_eq_true, Bool.not_eq_true', List.contains_eq_mem, decide_eq_false_iff_not] at hn
    rcases List.mem_cons.1 h with rfl | h
    · simp [mapM]
    · have hne : ¬ (a.1 = e.1) := fun e' => hn.1 (List.mem_map.2 ⟨e, h, e'.symm⟩)
      simp only [mapM, if_neg hne]
      exact mapM_mem hn.2 h

theorem mapM_some {M : Nat → Option (Nat × Nat)} : ∀ {obs : List (Nat × OTpl)} {o : Nat} {q : Nat × Nat}, mapM σ M obs o = some q → ∃ e ∈ obs, e.1 = o
  | [], o, q, h => by simp [mapM] at h
  | a :: r, o, q, h => by
    simp only [mapM] at h
    split at h
    · rename_i e
      exact ⟨a, .head _, e⟩
    · obtain ⟨e, he, h1⟩ := mapM_some h
      exact ⟨e, .tail _ he, h1⟩

theorem extC_snd {l : List Nat} {z : Sch} : ∀ {ts : List CTpl} {y0 : z.D} {cs : List AV} {y : (schC ts z).D}, extC look l y0 ts cs = some y → (mkC ts y).2 = y0
  | [], y0, cs, y, e => by cases cs with
    | nil => simp [extC] at e; subst e; rfl
    | cons _ _ => simp [extC] at e
  | .data s :: r, y0, cs, y, e => by cases cs with
    | nil => simp [extC] at e
    | cons c cs =>
      simp only [extC] at e
      split at e
      · rename_i x y' h1 h2
        simp at e; subst e
        exact extC_snd (ts := r) h2
      · simp at e
  | .ref o :: r, y0, cs, y, e => by cases cs with
    | nil => simp [extC] at e
    | cons c cs =>
      simp only [extC] at e
      split at e
      · exact extC_snd (ts := r) e
      · simp at e
  | .hnd m o :: r, y0, cs, y, e => by cases cs with
    | nil => simp [extC] at e
    | cons c cs =>
      simp only [extC] at e
      split at e
      · split at e
        · exact extC_snd (ts := r) e
        · simp at e
      · simp at e

/-- What an object at the head is. -/
def ObSpec (l : List Nat) (σ0 σ : St) (e : Nat × OTpl) (ob : Ob) : Prop := match e.2 with
  | .keep => lk e.1 σ0.sto = some ob
  | .arr m s => ∃ xs, ob = .arr m 0 s xs ∧ ((∃ ver, lk e.1 σ.sto = some (.arr m ver s xs)) ∨ (lk e.1 σ.sto = none ∧ xs = [] ∧ m.fix = none ∧ 0 < s.size))
  | .cells ts => ∃ (vs : List AV) (z : Sch) (y0 : z.D) (y : (schC ts z).D), lk e.1 σ.sto = some (.cells false vs) ∧ extC (lks σ) l y0 ts vs = some y ∧ ob = .cells false (mkC ts y).1
  | .via t ts => ∃ (p : Nat) (vs : List AV) (z : Sch) (y0 : z.D) (y : (schC ts z).D), get σ.tm t = .ptr p 0 ∧ lk p σ.sto = some (.cells false vs) ∧ extC (lks σ) l y0 ts vs = some y ∧ ob = .cells false (mkC ts y).1
  | .map ka va ks vs => ∃ ver xs, lk e.1 σ.sto = some (.map ver ka va ks vs xs) ∧ ob = .map 0 ka va ks vs xs
  | .it mo ks vs => ∃ (ver : Nat) (left cur : List (ks.D × vs.D)) (ka va : Bool) (ks' vs' : Sch) (xs : List (ks'.D × vs'.D)), lk e.1 σ.sto = some (.it mo ver ks vs left cur) ∧ lk mo σ.sto = some (.map ver ka va ks' vs' xs) ∧ ob = .it mo (verM mo σ0) ks vs left []

theorem mkO_mem {l : List Nat} {σ0 : St} :
    ∀ {obs : List (Nat × OTpl)} {y : (schO obs).D}, nodupN (obs.map (·.1)) = true → extO l σ obs = some y → (∀ o, (o, OTpl.keep) ∈ obs → (lk o σ0.sto).isSome = true) →
      (∀ e ∈ obs, ∃ ob, lk e.1 (mkO σ0 obs y) = some ob ∧ ObSpec l σ0 σ e ob) ∧ ∀ o ob, lk o (mkO σ0 obs y) = some ob → ∃ e ∈ obs, e.1 = o
  | [], y, _, _, _ => ⟨fun e h => by simp at h, fun o ob h => by simp [mkO, lk] at h⟩
  | (o, tpl) :: r, y, hn, he, hk => by
    simp only [List.map_cons, nodupN, Bool.and_eq_true, Bool.not_eq_true', List.contains_eq_mem, decide_eq_false_iff_not] at hn
    have hk' : ∀ o, (o, OTpl.keep) ∈ r → (lk o σ0.sto).isSome = true := fun o h => hk o (.tail _ h)
    -- the head, then the rest
    have join : ∀ (ob : Ob) (y' : (schO r).D), mkO σ0 ((o, tpl) :: r) y = (o, ob) :: mkO σ0 r y' → extO l σ r = some y' → ObSpec l σ0 σ (o, tpl) ob →
        (∀ e ∈ (o, tpl) :: r, ∃ ob, lk e.1 (mkO σ0 ((o, tpl) :: r) y) = some ob ∧ ObSpec l σ0 σ e ob) ∧ ∀ o' ob, lk o' (mkO σ0 ((o, tpl) :: r) y) = some ob → ∃ e ∈ (o, tpl) :: r, e.1 = o' := by
      intro ob y' hm hy' hsp
      obtain ⟨h1, h2⟩ := mkO_mem hn.2 hy' hk'
      rw [hm]
      refine ⟨fun e h => ?_, fun o' ob' h => ?_⟩
      · rcases List.mem_cons.1 h with rfl | h
        · exact ⟨ob, by simp [lk], hsp⟩
        · obtain ⟨ob', h3, h4⟩ := h1 e h
          have hne : ¬ (o = e.1) := fun e' => hn.1 (List.mem_map.2 ⟨e, h, e'.symm⟩)
          exact ⟨ob', by simp [lk, hne, h3], h4⟩
      · by_cases e' : o = o'
        · exact ⟨(o, tpl), .head _, e'⟩
        · simp only [lk, if_neg e'] at h
          obtain ⟨e, he, h3⟩ := h2 o' ob' h
          exact ⟨e, .tail _ he, h3⟩
    cases tpl with
    | keep =>
      obtain ⟨ob, hob⟩ := Option.isSome_iff_exists.1 (hk o (.head _))
      exact join ob y (by simp [mkO, hob]) he hob
    | arr m s =>
      simp only [extO] at he
      split at he
      · rename_i m' ver s' xs hlk
        split at he
        · rename_i hs
          subst hs
          split at he
          · rename_i hm
            subst hm
            split at he
            · rename_i y' hy'
              simp at he; subst he
              exact join _ y' rfl hy' ⟨xs, rfl, .inl ⟨ver, hlk⟩⟩
            · simp at he
          · simp at he
        · simp at he
      · simp at he
      · rename_i hlk
        split at he
        · simp at he
        · rename_i hcond
          simp only [not_or, Decidable.not_not] at hcond
          split at he
          · rename_i y' hy'
            simp at he; subst he
            exact join _ y' rfl hy' ⟨[], rfl, .inr ⟨hlk, rfl, hcond.1, by omega⟩⟩
          · simp at he
    | cells cs =>
      simp only [extO] at he
      split at he
      · rename_i vs hlk
        split at he
        · rename_i y' hy'
          have h2 := extC_snd he
          exact join _ y' (by simp only [mkO]; rw [h2]) hy' ⟨vs, _, _, _, hlk, he, rfl⟩
        · simp at he
      · simp at he
    | via t cs =>
      simp only [extO] at he
      split at he
      · rename_i p hp
        split at he
        · rename_i vs hlk
          split at he
          · rename_i y' hy'
            have h2 := extC_snd he
            exact join _ y' (by simp only [mkO]; rw [h2]) hy' ⟨p, vs, _, _, _, hp, hlk, he, rfl⟩
          · simp at he
        · simp at he
      · simp at he
    | map ka va ks vs =>
      simp only [extO] at he
      split at he
      · rename_i ver ka' va' ks' vs' xs hlk
        split at he
        · rename_i h1
          subst h1
          split at he
          · rename_i h2
            subst h2
            split at he
            · rename_i h3
              obtain ⟨rfl, rfl⟩ := h3
              split at he
              · rename_i y' hy'
                simp at he; subst he
                exact join _ y' rfl hy' ⟨ver, xs, hlk, rfl⟩
              · simp at he
            · simp at he
          · simp at he
        · simp at he
      · simp at he
    | it mo ks vs =>
      simp only [extO] at he
      split at he
      · rename_i mo' ver ks' vs' left cur ver' ka va ks2 vs2 xs hlk hmo
        split at he
        · rename_i h1
          subst h1
          split at he
          · rename_i h2
            subst h2
            split at he
            · rename_i h3
              obtain ⟨rfl, rfl⟩ := h3
              split at he
              · rename_i y' hy'
                simp at he; subst he
                exact join _ y' rfl hy' ⟨_, left, cur, ka, va, ks2, vs2, xs, hlk, hmo, rfl⟩
              · simp at he
            · simp at he
          · simp at he
        · simp at he
      · simp at he

/-- The temporaries. -/
theorem mkT_rel {l : List Nat} {σ0 : St} {X : Nat → AV → Prop} {obs : List (Nat × OTpl)} :
    ∀ {tms : List (Nat × Tpl)} {v : (schT tms obs).D}, extT l σ tms obs = some v →
      (∀ t ag s x, (t, Tpl.data ag s) ∈ tms → decTy (lks σ) (ag, s) (get σ.tm t) = some x → X t (encTy (ag, s) x)) →
      (∀ t, (t, Tpl.keep) ∈ tms → X t (get σ0.tm t)) →
      (∀ t o, (t, Tpl.ref o) ∈ tms → isRef (lks σ) o (get σ.tm t) = true → l.contains o = true → X t (.ref o 0)) →
      (∀ t o, (t, Tpl.ptr o) ∈ tms → viaOf t o obs = true → X t (.ptr o 0)) →
      ∃ y, extO l σ obs = some y ∧ ∀ tm, (∀ t, X t (get tm t)) → (∀ t, X t (get (mkT σ0 tms obs v tm).1 t)) ∧ (mkT σ0 tms obs v tm).2 = mkO σ0 obs y ∧ (mkT σ0 tms obs v tm).1.length = tm.length
  | [], v, he, _, _, _, _ => ⟨v, he, fun tm h => ⟨h, rfl, rfl⟩⟩
  | (t, tpl) :: r, v, he, h1, h2, h3, h4 => by
    have set : ∀ (tm : Tm) (av : AV), X t av → (∀ t', X t' (get tm t')) → ∀ t', X t' (get (tm.set t av) t') := fun tm av hx h t' => by
      rw [get_set]
      split
      · rename_i e; rw [e.1]; exact hx
      · exact h t'
    cases tpl with
    | data ag s =>
      simp only [extT] at he
      split at he
      · rename_i x y' hx hy'
        simp at he; subst he
        obtain ⟨y, hy, hall⟩ := mkT_rel hy' (fun t ag s x hm => h1 t ag s x (.tail _ hm)) (fun t hm => h2 t (.tail _ hm)) (fun t o hm => h3 t o (.tail _ hm)) (fun t o hm => h4 t o (.tail _ hm))
        refine ⟨y, hy, fun tm h => ?_⟩
        obtain ⟨a1, a2, a3⟩ := hall (tm.set t (encTy (ag, s) x)) (set tm _ (h1 t ag s x (.head _) hx) h)
        exact ⟨a1, a2, by rw [← Tm.length_set (tm := tm) (d := t) (v := encTy (ag, s) x)]; exact a3⟩
      · simp at he
    | keep =>
      obtain ⟨y, hy, hall⟩ := mkT_rel (tms := r) he (fun t ag s x hm => h1 t ag s x (.tail _ hm)) (fun t hm => h2 t (.tail _ hm)) (fun t o hm => h3 t o (.tail _ hm)) (fun t o hm => h4 t o (.tail _ hm))
      refine ⟨y, hy, fun tm h => ?_⟩
      obtain ⟨a1, a2, a3⟩ := hall (tm.set t (get σ0.tm t)) (set tm _ (h2 t (.head _)) h)
      exact ⟨a1, a2, by rw [← Tm.length_set (tm := tm) (d := t) (v := get σ0.tm t)]; exact a3⟩
    | ref o =>
      simp only [extT] at he
      split at he
      · rename_i hc
        simp only [Bool.and_eq_true] at hc
        obtain ⟨y, hy, hall⟩ := mkT_rel (tms := r) he (fun t ag s x hm => h1 t ag s x (.tail _ hm)) (fun t hm => h2 t (.tail _ hm)) (fun t o hm => h3 t o (.tail _ hm)) (fun t o hm => h4 t o (.tail _ hm))
        refine ⟨y, hy, fun tm h => ?_⟩
        obtain ⟨a1, a2, a3⟩ := hall (tm.set t (.ref o 0)) (set tm _ (h3 t o (.head _) hc.1 hc.2) h)
        exact ⟨a1, a2, by rw [← Tm.length_set (tm := tm) (d := t) (v := .ref o 0)]; exact a3⟩
      · simp at he
    | ptr o =>
      simp only [extT] at he
      split at he
      · rename_i hc
        obtain ⟨y, hy, hall⟩ := mkT_rel (tms := r) he (fun t ag s x hm => h1 t ag s x (.tail _ hm)) (fun t hm => h2 t (.tail _ hm)) (fun t o hm => h3 t o (.tail _ hm)) (fun t o hm => h4 t o (.tail _ hm))
        refine ⟨y, hy, fun tm h => ?_⟩
        obtain ⟨a1, a2, a3⟩ := hall (tm.set t (.ptr o 0)) (set tm _ (h4 t o (.head _) hc) h)
        exact ⟨a1, a2, by rw [← Tm.length_set (tm := tm) (d := t) (v := .ptr o 0)]; exact a3⟩
      · simp at he

theorem viaOf_mem {t o : Nat} : ∀ {obs : List (Nat × OTpl)}, viaOf t o obs = true → ∃ cs, (o, OTpl.via t cs) ∈ obs
  | [], h => by simp [viaOf] at h
  | (p, tpl) :: r, h => by
    have rest : viaOf t o r = true → ∃ cs, (o, OTpl.via t cs) ∈ (p, tpl) :: r := fun h => by
      obtain ⟨cs, hm⟩ := viaOf_mem h
      exact ⟨cs, .tail _ hm⟩
    cases tpl with
    | via u cs =>
      simp only [viaOf, Bool.or_eq_true, Bool.and_eq_true, beq_iff_eq] at h
      rcases h with ⟨rfl, rfl⟩ | h
      · exact ⟨cs, .head _⟩
      · exact rest h
    | keep => exact rest h
    | arr m s => exact rest h
    | cells l => exact rest h
    | map ka va ks vs => exact rest h
    | it mo ks vs => exact rest h

theorem keptO_mem {o : Nat} : ∀ {obs : List (Nat × OTpl)}, (keptO obs).contains o = true → (o, OTpl.keep) ∈ obs
  | [], h => by simp [keptO] at h
  | (p, tpl) :: r, h => by
    cases tpl with
    | keep =>
      simp only [keptO, List.contains_cons, Bool.or_eq_true, beq_iff_eq] at h
      rcases h with rfl | h
      · exact .head _
      · exact .tail _ (keptO_mem h)
    | via u cs => exact .tail _ (keptO_mem h)
    | arr m s => exact .tail _ (keptO_mem h)
    | cells l => exact .tail _ (keptO_mem h)
    | map ka va ks vs => exact .tail _ (keptO_mem h)
    | it mo ks vs => exact .tail _ (keptO_mem h)

theorem ownO_mem {o : Nat} : ∀ {obs : List (Nat × OTpl)}, (ownO obs).contains o = true → ∃ tpl, (o, tpl) ∈ obs ∧ ∀ t cs, tpl ≠ .via t cs
  | [], h => by simp [ownO] at h
  | (p, tpl) :: r, h => by
    have rest : (ownO r).contains o = true → ∃ tpl', (o, tpl') ∈ (p, tpl) :: r ∧ ∀ t cs, tpl' ≠ .via t cs := fun h => by
      obtain ⟨tpl', hm, hn⟩ := ownO_mem h
      exact ⟨tpl', .tail _ hm, hn⟩
    cases tpl with
    | via u cs => exact rest h
    | _ =>
      simp only [ownO, List.contains_cons, Bool.or_eq_true, beq_iff_eq] at h
      rcases h with rfl | h
      · exact ⟨_, .head _, fun t cs e => by simp at e⟩
      · exact rest h

theorem actual1_own {o : Nat} {tpl : OTpl} (h : ∀ t cs, tpl ≠ .via t cs) : actual1 σ (o, tpl) = o := by
  cases tpl <;> first | rfl | exact absurd rfl (h _ _)

end
end Go.Pi
end

section
namespace Go.Pi
open Go.RowKit
set_option linter.unusedSimpArgs false
set_option linter.unusedVariables false

section
variable {P : Program} {B : Nat → Prop} {w0 : World} {S0 : Cells} {G G' : Gh} {outs : Outs} {σ : St} {a : Act} {w w' : World} {o : Oper} {look look' : Look}

theorem isRef_ref {o p ver : Nat} (h : isRef look o (.ref p ver) = true) : p = o ∧ ∃ m s xs, look o = some (.arr m ver s xs) := by
  simp only [isRef, Bool.and_eq_true, beq_iff_eq] at h
  obtain ⟨rfl, h⟩ := h
  refine ⟨rfl, ?_⟩
  split at h
  · rename_i m ver' s xs hl
    simp at h
    subst h
    exact ⟨m, s, xs, hl⟩
  · simp at h

theorem ext_rel {A : LAnn} {σ0 : St} {v : A.S.D} (h : Rel B w0 S0 G outs σ a w) (hok : A.okAt σ0 = true) (hkT : ∀ t, (t, Tpl.keep) ∈ A.tms → get σ.tm t = get σ0.tm t ∨ get σ0.tm t = .undef)
    (hkO : ∀ o, (o, OTpl.keep) ∈ A.obs → ∃ ob, lk o σ0.sto = some ob ∧ lk o σ.sto = some ob) (hout : σ.outs = σ0.outs) (hlen : σ.tm.length = σ0.tm.length) (he : A.ext σ = some v) : ∃ G', Rel B w0 S0 G' outs (A.mk' σ0 v) a w := by
  unfold LAnn.ext at he
  split at he
  · rename_i hact
    unfold LAnn.okAt at hok
    simp only [Bool.and_eq_true] at hok
    obtain ⟨⟨⟨⟨hids, hokT⟩, hokO⟩, hokouts⟩, _⟩ := hok
    have hids : nodupN (A.obs.map (·.1)) = true := hids
    -- the objects' part
    obtain ⟨y, hy, hsh⟩ := mkT_rel (σ := σ) (σ0 := σ0) (l := ownO A.obs) (X := fun _ _ => True) he (fun _ _ _ _ _ _ => trivial) (fun _ _ => trivial) (fun _ _ _ _ _ => trivial) (fun _ _ _ _ => trivial)
    have hM : ∀ e ∈ A.obs, mapM σ G.M A.obs e.1 = (match lk (actual1 σ e) σ.sto with
      | none => none
      | some _ => G.M (actual1 σ e)) := fun e hm => mapM_mem hids hm
    have hkeep0 : ∀ o, (o, OTpl.keep) ∈ A.obs → (lk o σ0.sto).isSome = true := fun o hm => by obtain ⟨ob, h1, _⟩ := hkO o hm; simp [h1]
    obtain ⟨hmem1, hmem2⟩ := mkO_mem (σ := σ) (σ0 := σ0) (l := ownO A.obs) hids hy hkeep0
    -- what is closed is as it was
    have hover : Over G (lks σ) { G with M := mapM σ G.M A.obs } (fun p => lk p (mkO σ0 A.obs y)) (ownO A.obs) (keptO A.obs) := by
      refine ⟨rfl, rfl, fun o hq => ?_, fun o ob hl hob hst => ?_⟩
      · have hm := keptO_mem hq
        obtain ⟨ob, h1, h2⟩ := hkO o hm
        obtain ⟨ob', h3, h4⟩ := hmem1 _ hm
        have h4 : lk o σ0.sto = some ob' := h4
        rw [h1] at h4
        simp at h4
        subst h4
        refine ⟨h3.trans h2.symm, ?_⟩
        have := hM _ hm
        simp only [actual1] at this
        show mapM σ G.M A.obs o = G.M o
        rw [this, h2]
      · obtain ⟨tpl, hm, hnv⟩ := ownO_mem hl
        have hob : lk o σ.sto = some ob := hob
        obtain ⟨ob', h3, h4⟩ := hmem1 _ hm
        refine ⟨⟨ob', h3, ?_⟩, ?_⟩
        · refine (?_ : ob'.still ∧ ∀ m, ob.isH m = true → ob'.isH m = true)
          cases tpl with
          | keep =>
            obtain ⟨ob2, h5, h6⟩ := hkO o hm
            have h4 : lk o σ0.sto = some ob' := h4
            rw [h5] at h4
            simp at h4; subst h4
            rw [h6] at hob
            simp at hob; subst hob
            exact ⟨hst, fun _ h => h⟩
          | arr m s =>
            obtain ⟨xs, rfl, h5⟩ := h4
            rcases h5 with ⟨ver, h5⟩ | ⟨h5, _⟩
            · have h5 : lk o σ.sto = _ := h5
              rw [h5] at hob
              simp at hob; subst hob
              exact ⟨hst, fun m hm => by simp [Ob.isH] at hm⟩
            · have h5 : lk o σ.sto = none := h5
              rw [h5] at hob; simp at hob
          | cells ts =>
            obtain ⟨vs, z, y0, y', h5, _, rfl⟩ := h4
            have h5 : lk o σ.sto = _ := h5
            rw [h5] at hob
            simp at hob; subst hob
            exact ⟨trivial, fun m hm => by simp [Ob.isH] at hm⟩
          | via t ts => exact absurd rfl (hnv t ts)
          | map ka va ks vs =>
            obtain ⟨ver, xs, h5, rfl⟩ := h4
            have h5 : lk o σ.sto = _ := h5
            rw [h5] at hob
            simp at hob; subst hob
            exact ⟨trivial, fun m hm => hm⟩
          | it mo ks vs =>
            obtain ⟨ver, left, cur, ka, va, ks', vs', xs, h5, _, rfl⟩ := h4
            have h5 : lk o σ.sto = _ := h5
            rw [h5] at hob
            simp at hob; subst hob
            exact ⟨trivial, fun m hm => hm⟩
        · have := hM _ hm
          rw [actual1_own hnv] at this
          show mapM σ G.M A.obs o = G.M o
          rw [show mapM σ G.M A.obs o = _ from this, hob]
    -- slices under construction
    have hrefT : ∀ o ver v, (ownO A.obs).contains o = true → isRef (lks σ) o (.ref o ver) = true → VR0 G w (lks σ) (.ref o ver) v → VR0 { G with M := mapM σ G.M A.obs } w (fun p => lk p (mkO σ0 A.obs y)) (.ref o 0) v := by
      intro o ver v hl hr hv
      obtain ⟨_, m, s, xs, hob⟩ := isRef_ref hr
      obtain ⟨hlf, m', ver', s', xs', hob', hmf, hle, hrv⟩ := hv
      rw [hob] at hob'
      simp only [Option.some.injEq, Ob.arr.injEq] at hob'
      obtain ⟨rfl, rfl, rfl, e2⟩ := hob'
      have e3 := eq_of_heq e2
      subst e3
      have hob : lk o σ.sto = some (.arr m ver s xs) := hob
      obtain ⟨tpl, hm, hnv⟩ := ownO_mem hl
      obtain ⟨ob', h3, h4⟩ := hmem1 _ hm
      have hMo := hM _ hm
      rw [actual1_own hnv] at hMo
      simp only [hob] at hMo
      cases tpl with
      | keep =>
        obtain ⟨ob2, h5, h6⟩ := hkO o hm
        have h4 : lk o σ0.sto = some ob' := h4
        rw [h5] at h4
        simp at h4; subst h4
        rw [h6] at hob
        simp at hob; subst hob
        exact ⟨hlf, m, ver, s, xs, h3, hmf, by omega, fun e => by show RefV (mapM σ G.M A.obs o) _ _; rw [show mapM σ G.M A.obs o = _ from hMo]; exact hrv rfl⟩
      | arr m2 s2 =>
        obtain ⟨xs2, rfl, h5⟩ := h4
        rcases h5 with ⟨ver2, h5⟩ | ⟨h5, _⟩
        · have h5 : lk o σ.sto = _ := h5
          rw [h5] at hob
          simp only [Option.some.injEq, Ob.arr.injEq] at hob
          obtain ⟨rfl, rfl, rfl, e2⟩ := hob
          have e3 := eq_of_heq e2
          subst e3
          exact ⟨hlf, m2, 0, s2, xs2, h3, hmf, by omega, fun e => by show RefV (mapM σ G.M A.obs o) _ _; rw [show mapM σ G.M A.obs o = _ from hMo]; exact hrv rfl⟩
        · have h5 : lk o σ.sto = none := h5
          rw [h5] at hob; simp at hob
      | cells ts =>
        obtain ⟨vs, z, y0, y', h5, _, rfl⟩ := h4
        have h5 : lk o σ.sto = _ := h5
        rw [h5] at hob; simp at hob
      | via t ts => exact absurd rfl (hnv t ts)
      | map ka va ks vs =>
        obtain ⟨ver, xs, h5, rfl⟩ := h4
        have h5 : lk o σ.sto = _ := h5
        rw [h5] at hob; simp at hob
      | it mo ks vs =>
        obtain ⟨ver, left, cur, ka, va, ks', vs', xs, h5, _, rfl⟩ := h4
        have h5 : lk o σ.sto = _ := h5
        rw [h5] at hob; simp at hob
    have hnilT : ∀ o, (ownO A.obs).contains o = true → lks σ o = none → ∀ v, v = Value.slice none 0 0 → VR0 { G with M := mapM σ G.M A.obs } w (fun p => lk p (mkO σ0 A.obs y)) (.ref o 0) v := by
      intro o hl hnone v hv
      subst hv
      have hnone : lk o σ.sto = none := hnone
      obtain ⟨tpl, hm, hnv⟩ := ownO_mem hl
      obtain ⟨ob', h3, h4⟩ := hmem1 _ hm
      have hMo := hM _ hm
      rw [actual1_own hnv] at hMo
      simp only [hnone] at hMo
      cases tpl with
      | keep =>
        obtain ⟨ob2, h5, h6⟩ := hkO o hm
        rw [h6] at hnone; simp at hnone
      | arr m2 s2 =>
        obtain ⟨xs2, rfl, h5⟩ := h4
        rcases h5 with ⟨ver2, h5⟩ | ⟨_, rfl, hmf, _⟩
        · have h5 : lk o σ.sto = _ := h5
          rw [h5] at hnone; simp at hnone
        · exact ⟨trivial, m2, 0, s2, [], h3, hmf, by omega, fun e => by show RefV (mapM σ G.M A.obs o) _ _; rw [show mapM σ G.M A.obs o = _ from hMo]; exact ⟨rfl, rfl⟩⟩
      | cells ts =>
        obtain ⟨vs, z, y0, y', h5, _, rfl⟩ := h4
        have h5 : lk o σ.sto = _ := h5
        rw [h5] at hnone; simp at hnone
      | via t ts => exact absurd rfl (hnv t ts)
      | map ka va ks vs =>
        obtain ⟨ver, xs, h5, rfl⟩ := h4
        have h5 : lk o σ.sto = _ := h5
        rw [h5] at hnone; simp at hnone
      | it mo ks vs =>
        obtain ⟨ver, left, cur, ka, va, ks', vs', xs, h5, _, rfl⟩ := h4
        have h5 : lk o σ.sto = _ := h5
        rw [h5] at hnone; simp at hnone
    have hC : ∀ {z : Sch} {ts : List CTpl} {y0 : z.D} {cs : List AV} {vs : List Value} {y' : (schC ts z).D}, All2 (CR G w (lks σ)) cs vs → extC (lks σ) (ownO A.obs) y0 ts cs = some y' →
        All2 (CR { G with M := mapM σ G.M A.obs } w (fun p => lk p (mkO σ0 A.obs y))) (mkC ts y').1 vs := fun hcs hex =>
      (extC_rel h.obj hrefT hnilT (fun m o v hl hv => hover.hnd hl hv) rfl hcs hex).1
    -- the temporaries
    obtain ⟨y2, hy2, hT⟩ := mkT_rel (σ := σ) (σ0 := σ0) (l := ownO A.obs) (X := fun t av => VR { G with M := mapM σ G.M A.obs } w (fun p => lk p (mkO σ0 A.obs y)) av (a.tmps.getD t Go.undef)) he
      (fun t ag s x hm hx => by
        have hd : TyV G.S w (ag, s) x _ := decTy_rel h.obj (h.tm t) hx
        exact encTy_rel (G := { G with M := mapM σ G.M A.obs }) hd)
      (fun t hm => by
        have hcl := List.all_eq_true.1 hokT _ hm
        simp only at hcl
        rcases hkT t hm with e | e
        · have hv := h.tm t
          rw [e] at hv
          exact hover.vr hcl hv
        · rw [e]; simp only [VR, VR1, VR0])
      (fun t o hm hr hl => by
        have hv := h.tm t
        revert hr hv
        generalize get σ.tm t = q
        intro hr hv
        cases q <;> try (simp [isRef] at hr; done)
        case ref p ver =>
          have hp := (isRef_ref hr).1
          subst hp
          exact hrefT p ver _ hl hr hv
        case nils => exact hnilT o hl (by simpa [isRef] using hr) _ hv)
      (fun t o hm hvia => by
        obtain ⟨cs, hvm⟩ := viaOf_mem hvia
        obtain ⟨ob', h3, h4⟩ := hmem1 _ hvm
        obtain ⟨p, vs, z, y0, y', hp, hlk, hex, rfl⟩ := h4
        have hv := h.tm t
        rw [hp] at hv
        obtain ⟨_, b, c, hm', e⟩ := hv
        have hMo := hM _ hvm
        simp only [actual1, hp, hlk] at hMo
        exact ⟨⟨_, h3, trivial⟩, b, c, hMo.trans hm', e⟩)
    rw [hy] at hy2
    simp at hy2
    subst hy2
    obtain ⟨hT1, hT2, hT3⟩ := hT (Tm.none σ0.tm.length) (fun t => by
      have : get (Tm.none σ0.tm.length) t = .undef := get_none _ _
      rw [this]
      simp only [VR, VR1, VR0])
    have hsto : (A.mk' σ0 v).sto = mkO σ0 A.obs y := hT2
    have htm : (A.mk' σ0 v).tm = (mkT σ0 A.tms A.obs v (Tm.none σ0.tm.length)).1 := rfl
    refine ⟨{ G with M := mapM σ G.M A.obs }, h.below, h.bsz, h.s0, h.snew, h.slt, ?_, ?_, ?_, ?_, ?_, h.yeq⟩
    · rw [htm, hT3]
      show σ0.tm.length ≤ _
      rw [← hlen]
      exact h.tml
    · rw [htm, hsto]; exact hT1
    · rw [hsto]
      show All2 _ σ0.outs outs.fr
      rw [← hout] at hokouts ⊢
      have : ∀ (l : List Tm) (m : List (Array Value)), (l.all fun l => l.all (closed (ownO A.obs) (keptO A.obs))) = true → All2 (fun (l : Tm) (arr : Array Value) => l.length ≤ arr.size ∧ ∀ t, VR G w (lks σ) (get l t) (arr.getD t Go.undef)) l m →
          All2 (fun (l : Tm) (arr : Array Value) => l.length ≤ arr.size ∧ ∀ t, VR { G with M := mapM σ G.M A.obs } w (fun p => lk p (mkO σ0 A.obs y)) (get l t) (arr.getD t Go.undef)) l m := by
        intro l
        induction l with
        | nil => intro m _ h; cases m with
          | nil => trivial
          | cons _ _ => exact h.elim
        | cons x r ih => intro m hc h; cases m with
          | nil => exact h.elim
          | cons q m =>
            simp only [List.all_cons, Bool.and_eq_true] at hc
            refine ⟨⟨h.1.1, fun t => ?_⟩, ih m hc.2 h.2⟩
            have hv := h.1.2 t
            exact hover.vr (all_get rfl hc.1 t) hv
      exact this _ _ hokouts h.outl
    · rw [hsto]
      intro o ob hob
      obtain ⟨e, hem, rfl⟩ := hmem2 o ob hob
      obtain ⟨ob', h3, h4⟩ := hmem1 e hem
      rw [hob] at h3
      simp at h3; subst h3
      obtain ⟨o, tpl⟩ := e
      have hMo := hM _ hem
      cases tpl with
      | keep =>
        obtain ⟨ob2, h5, h6⟩ := hkO o hem
        have h4 : lk o σ0.sto = some ob := h4
        rw [h5] at h4
        simp at h4; subst h4
        simp only [actual1, h6] at hMo
        have hO := h.obj o ob2 h6
        cases ob2 with
        | arr m ver s xs =>
          refine ⟨hO.1, ?_⟩
          have := hO.2
          show ArrR G.S w B (mapM σ G.M A.obs o) m s xs
          rw [show mapM σ G.M A.obs o = _ from hMo]; exact this
        | cells fz cs =>
          obtain ⟨b, c, vs, ty, hm, hb, hh, ha, hs⟩ := hO
          have hcl := List.all_eq_true.1 hokO _ hem
          simp only [h5] at hcl
          exact ⟨b, c, vs, ty, hMo.trans hm, hb, hh, hover.crs hcl ha, hs⟩
        | map ver ka va ks vs xs =>
          obtain ⟨b, c, es, clock, hm, hb, hh, hr⟩ := hO
          exact ⟨b, c, es, clock, hMo.trans hm, hb, hh, hr⟩
        | it mo ver ks vs left cur =>
          have hcl := List.all_eq_true.1 hokO _ hem
          simp only [h5] at hcl
          obtain ⟨k1, k2⟩ := hover.kept mo hcl
          obtain ⟨b, c, bm, c', since, seen, last, ver', ka, va, ks', vs', xs, hm, hb, hh, hl, hle, hMm, hr⟩ := hO
          exact ⟨b, c, bm, c', since, seen, last, ver', ka, va, ks', vs', xs, hMo.trans hm, hb, hh, k1.trans hl, hle, k2.trans hMm, hr⟩
      | arr m s =>
        obtain ⟨xs, rfl, h5⟩ := h4
        rcases h5 with ⟨ver, h5⟩ | ⟨h5, rfl, hmf, hpos⟩
        · have h5 : lk o σ.sto = _ := h5
          have hO := h.obj o _ h5
          simp only [actual1, h5] at hMo
          refine ⟨hO.1, ?_⟩
          show ArrR G.S w B (mapM σ G.M A.obs o) m s xs
          rw [show mapM σ G.M A.obs o = _ from hMo]; exact hO.2
        · have h5 : lk o σ.sto = none := h5
          simp only [actual1, h5] at hMo
          refine ⟨hpos, ?_⟩
          show ArrR G.S w B (mapM σ G.M A.obs o) m s []
          rw [show mapM σ G.M A.obs o = _ from hMo]; exact ⟨rfl, hmf⟩
      | cells ts =>
        obtain ⟨vs, z, y0, y', h5, hex, rfl⟩ := h4
        have h5 : lk o σ.sto = _ := h5
        simp only [actual1, h5] at hMo
        obtain ⟨b, c, us, ty, hm, hb, hh, ha, hs⟩ := h.obj o _ h5
        exact ⟨b, c, us, ty, hMo.trans hm, hb, hh, hC ha hex, hs⟩
      | via t ts =>
        obtain ⟨p, vs, z, y0, y', hp, h5, hex, rfl⟩ := h4
        simp only [actual1, hp, h5] at hMo
        obtain ⟨b, c, us, ty, hm, hb, hh, ha, hs⟩ := h.obj p _ h5
        exact ⟨b, c, us, ty, hMo.trans hm, hb, hh, hC ha hex, hs⟩
      | map ka va ks vs =>
        obtain ⟨ver, xs, h5, rfl⟩ := h4
        have h5 : lk o σ.sto = _ := h5
        simp only [actual1, h5] at hMo
        obtain ⟨b, c, es, clock, hm, hb, hh, hr⟩ := h.obj o _ h5
        exact ⟨b, c, es, clock, hMo.trans hm, hb, hh, hr⟩
      | it mo ks vs =>
        obtain ⟨ver, left, cur, ka, va, ks', vs', xs, h5, hmo, rfl⟩ := h4
        have h5 : lk o σ.sto = _ := h5
        simp only [actual1, h5] at hMo
        have hcl := List.all_eq_true.1 hokO _ hem
        simp only at hcl
        obtain ⟨k1, k2⟩ := hover.kept mo hcl
        obtain ⟨obm, q1, q2⟩ := hkO mo (keptO_mem hcl)
        rw [hmo] at q2
        simp only [Option.some.injEq] at q2
        subst q2
        have hver : verM mo σ0 = ver := by unfold verM; rw [q1]
        obtain ⟨b, c, bm, c', since, seen, last, ver', ka', va', ks2, vs2, xs', hm, hb, hh, hl, hle, hMm, hr⟩ := h.obj o _ h5
        refine ⟨b, c, bm, c', since, seen, last, ver', ka', va', ks2, vs2, xs', hMo.trans hm, hb, hh, k1.trans hl, by rw [hver]; exact hle, k2.trans hMm, fun e => ?_⟩
        obtain ⟨r1, r2, es, clock, r3, r4, r5, r6, r7⟩ := hr (hver ▸ e)
        exact ⟨r1, r2, es, clock, r3, r4, r5, r6, fun c hc => by simp at hc⟩
    · rw [hsto]
      intro o o' ob ob' b c c' hob hob' hm hm'
      obtain ⟨e, hem, rfl⟩ := hmem2 o ob hob
      obtain ⟨e', hem', rfl⟩ := hmem2 o' ob' hob'
      simp only at hm hm'
      have hm : mapM σ G.M A.obs e.1 = some (b, c) := hm
      have hm' : mapM σ G.M A.obs e'.1 = some (b, c') := hm'
      rw [hM e hem] at hm
      rw [hM e' hem'] at hm'
      split at hm
      · simp at hm
      · rename_i q hq
        split at hm'
        · simp at hm'
        · rename_i q' hq'
          have := h.inj _ _ q q' b c c' hq hq' hm hm'
          rw [nodup_inj hact hem hem' this]
  · simp at he

end
end Go.Pi
end

section
namespace Go.Pi
open Go.RowKit
set_option linter.unusedSimpArgs false
set_option linter.unusedVariables false

section
variable {P : Program} {C : Ctx} {S0 : Cells} {G G' : Gh} {outs : Outs} {σ σ' : St} {a a' : Act} {w w' w1 : World} {F : Nat → Prop} {lp : List (Nat × LSt)} {df : List Deferred}

theorem Held.rebase (h : Held C S0 outs lp df F w1) (hb : Bel F w1 w) (hlt : ∀ b, F b → b < w.heap.size) : Held C S0 outs lp df F w := by
  refine ⟨h.low, h.below.trans (hb.mono (fun k (hk : k < C.B) => h.low k hk)), hlt, h.s0, ?_, fun D hD => ?_, fun l hl => ?_, h.ro, fun i s hs => ?_, h.ydom, h.yinj⟩
  · obtain ⟨Ds, e, hn, hD⟩ := h.dfr
    exact ⟨Ds, e, hn, fun D hm => by
      obtain ⟨h1, h2, h3, h4⟩ := hD D hm
      exact ⟨h1, h2, h3, (hb.block D h1).trans h4⟩⟩
  · obtain ⟨h1, h2, h3⟩ := h.dm D hD
    exact ⟨h1, h2, (hb.block D h1).trans h3⟩
  · obtain ⟨h1, r, h2⟩ := h.rds l hl
    exact ⟨h1, r, (hb.block l h1).trans h2⟩
  · obtain ⟨b, r, h1, h2, h3, h4, h5⟩ := h.lps i s hs
    exact ⟨b, r, h1, h2, h3, h4, (hb.block b h3).trans h5⟩

/-- The base may be the world as it is. -/
theorem RX.now (h : RX C S0 G outs σ a w) : ∃ F, Rel F w S0 G outs σ a w ∧ Held C S0 outs σ.lps a.defers F w := by
  obtain ⟨F, w1, hR, hH⟩ := h
  exact ⟨F, ⟨Bel.refl _ _, hR.bsz, hR.s0, hR.snew, hR.slt, hR.tml, hR.tm, hR.outl, hR.obj, hR.inj, hR.yeq⟩, hH.rebase hR.below hR.bsz⟩

theorem lpAt_set {i j : Nat} {s s' : LSt} : ∀ {l : List (Nat × LSt)}, lpAt j l = some s → lpAt i (setLp j s' l) = if i = j then some s' else lpAt i l
  | [], h => by simp [lpAt] at h
  | (k, t) :: r, h => by
    by_cases e : k = j
    · subst e
      simp only [setLp, if_true, lpAt]
      by_cases e2 : k = i
      · subst e2; simp
      · rw [if_neg e2, if_neg (Ne.symm e2)]
        simp [e2]
    · simp only [lpAt, if_neg e] at h
      simp only [setLp, if_neg e, lpAt]
      by_cases e2 : k = i
      · subst e2; simp [e]
      · rw [if_neg e2, if_neg e2]
        exact lpAt_set h

theorem recAt_parts (r : Loop) (s : LSt) : (recAt r s).fn = r.fn ∧ (recAt r s).params = r.params ∧ (recAt r s).tmps = r.tmps ∧ (recAt r s).assign = r.assign ∧ (recAt r s).body = r.body := by
  cases s <;> exact ⟨rfl, rfl, rfl, rfl, rfl⟩

/-- The record of a loop that is running. -/
theorem RX.rec (h : RX C S0 G outs σ a w) {i b : Nat} {s : LSt} {r : Loop} (hs : lpAt i σ.lps = some s) (hY : outs.Y i = some b) (hr : C.R i = some r) : w.heap[b]? = some (.loop (recAt r s)) := by
  obtain ⟨F, hR, hH⟩ := h.now
  obtain ⟨b', r', e1, e2, hFb, hBb, hbk⟩ := hH.lps i s hs
  rw [hY] at e1
  rw [hr] at e2
  simp only [Option.some.injEq] at e1 e2
  subst e1 e2
  exact hbk

/-- A record is turned. -/
theorem RX.setLp (h : RX C S0 G outs σ a w) {i b : Nat} {s : LSt} {r : Loop} (hs : lpAt i σ.lps = some s) (hY : outs.Y i = some b) (hr : C.R i = some r) (s' : LSt) :
    RX C S0 G outs { σ with lps := Pi.setLp i s' σ.lps } a (w.putObj b (.loop (recAt r s'))) := by
  have hrec := h.rec hs hY hr
  obtain ⟨F, hR, hH⟩ := h.now
  obtain ⟨b', r', e1, e2, hFb, hBb, hbk⟩ := hH.lps i s hs
  rw [hY] at e1
  rw [hr] at e2
  simp only [Option.some.injEq] at e1 e2
  subst e1 e2
  have hlt : b < w.heap.size := hR.bsz b hFb
  have hR2 := hR.fxPut hFb (fun b' o hs0 e => by have := hH.s0 b' o hs0; omega) (.loop (recAt r s'))
  have oth : ∀ k, k ≠ b → (w.putObj b (.loop (recAt r s'))).heap[k]? = w.heap[k]? := fun k hk => World.putObj_heap_other hk
  refine ⟨F, _, hR2.congr rfl rfl fun _ => rfl, ?_⟩
  refine ⟨hH.low, hH.below.trans ⟨rfl, rfl, rfl, by simp, fun k hk => oth k (by have hk : k < C.B := hk; omega), Nat.le_refl _⟩, fun k hk => by simpa using hH.lt k hk, hH.s0, ?_, fun D hD => ?_, fun l hl => ?_, hH.ro, fun j t ht => ?_, fun j b2 hb2 => ?_, hH.yinj⟩
  · obtain ⟨Ds, e, hn, hD⟩ := hH.dfr
    refine ⟨Ds, e, hn, fun D hm => ?_⟩
    obtain ⟨h1, h2, h3, h4⟩ := hD D hm
    exact ⟨h1, h2, h3, (oth D (fun e => by subst e; rw [hbk] at h4; cases h4)).trans h4⟩
  · obtain ⟨h1, h2, h3⟩ := hH.dm D hD
    exact ⟨h1, h2, (oth D (fun e => by subst e; rw [hbk] at h3; cases h3)).trans h3⟩
  · obtain ⟨h1, q, h2⟩ := hH.rds l hl
    refine ⟨h1, ?_⟩
    by_cases e : l = b
    · subst e; exact ⟨_, World.putObj_heap_same hlt⟩
    · exact ⟨q, (oth l e).trans h2⟩
  · have ht2 : lpAt j (Pi.setLp i s' σ.lps) = some t := ht
    rw [lpAt_set hs] at ht2
    by_cases e : j = i
    · rw [if_pos e] at ht2
      simp only [Option.some.injEq] at ht2
      subst ht2
      subst e
      exact ⟨b, r, hY, hr, hFb, hBb, World.putObj_heap_same hlt⟩
    · rw [if_neg e] at ht2
      obtain ⟨b2, r2, k1, k2, k3, k4, k5⟩ := hH.lps j t ht2
      exact ⟨b2, r2, k1, k2, k3, k4, (oth b2 (fun e' => by subst e'; exact e (hH.yinj j i _ k1 hY))).trans k5⟩
  · obtain ⟨t, ht⟩ := hH.ydom j b2 hb2
    show ∃ s, lpAt j (Pi.setLp i s' σ.lps) = some s
    rw [lpAt_set hs]
    by_cases e : j = i
    · exact ⟨s', by rw [if_pos e]⟩
    · exact ⟨t, by rw [if_neg e]; exact ht⟩

/-! ### frames -/
def Ctx.inner (C : Ctx) (Ds : List Nat) (ro : Option Nat) : Ctx := { C with dm := Ds ++ C.dm, rds := ro.toList ++ C.rds, ro := ro }

theorem RX.push (h : RX C S0 G outs σ a w) {tm' : Tm} {a' : Act} {dt' dob' : List Nat} {ro : Option Nat} (hd : a'.defers = []) (hl : tm'.length ≤ a'.tmps.size)
    (hv : ∀ t, VR G w (lks σ) (get tm' t) (a'.tmps.getD t Go.undef)) (hro : ∀ l, ro = some l → ∃ i s, lpAt i σ.lps = some s ∧ outs.Y i = some l) :
    ∃ Ds, a.defers = Ds.map mkD ∧ (∀ D ∈ Ds, D ∉ C.dm) ∧ Ds.Nodup ∧ (∀ l, C.ro = some l → l ∈ C.rds) ∧ RX (C.inner Ds ro) S0 G (outs.push a.tmps) { tm := tm', outs := σ.tm :: σ.outs, sto := σ.sto, dt := dt', dob := dob', lps := σ.lps } a' w := by
  obtain ⟨F, hR, hH⟩ := h.now
  obtain ⟨Ds, e, hn, hD⟩ := hH.dfr
  refine ⟨Ds, e, fun D hm => (hD D hm).2.2.1, hn, hH.ro, F, w, ?_, ?_⟩
  · exact ⟨hR.below, hR.bsz, hR.s0, hR.snew, hR.slt, hl, hv, ⟨⟨hR.tml, hR.tm⟩, hR.outl⟩, hR.obj, hR.inj, hR.yeq⟩
  · refine ⟨hH.low, hH.below, hH.lt, hH.s0, ⟨[], hd, List.nodup_nil, fun D hm => by simp at hm⟩, fun D hm => ?_, fun l hl => ?_, fun l hl => ?_, hH.lps, hH.ydom, hH.yinj⟩
    · rcases List.mem_append.1 hm with hm | hm
      · obtain ⟨h1, h2, h3, h4⟩ := hD D hm
        exact ⟨h1, h2, h4⟩
      · exact hH.dm D hm
    · rcases List.mem_append.1 hl with hl | hl
      · cases ro with
        | none => simp at hl
        | some q =>
          simp at hl
          subst hl
          obtain ⟨i, s, h1, h2⟩ := hro l rfl
          obtain ⟨b, r, k1, k2, k3, k4, k5⟩ := hH.lps i s h1
          rw [h2] at k1
          simp only [Option.some.injEq] at k1
          subst k1
          exact ⟨k3, _, k5⟩
      · exact hH.rds l hl
    · have hl : ro = some l := hl
      subst hl
      simp [Ctx.inner]

theorem RX.pop {Ds : List Nat} {ro : Option Nat} {tm0 : Tm} {outs0 : List Tm} {a'' : Act} {dt' dob' : List Nat} (hd : a.defers = Ds.map mkD) (hdm : ∀ D ∈ Ds, D ∉ C.dm) (hn : Ds.Nodup) (hro : ∀ l, C.ro = some l → l ∈ C.rds)
    (h : RX (C.inner Ds ro) S0 G (outs.push a.tmps) σ' a'' w) (ho : σ'.outs = tm0 :: outs0) :
    RX C S0 G outs { tm := tm0, outs := outs0, sto := σ'.sto, dt := dt', dob := dob', lps := σ'.lps } a w := by
  obtain ⟨F, hR, hH⟩ := h.now
  have houtl := hR.outl
  rw [ho] at houtl
  refine ⟨F, w, ⟨hR.below, hR.bsz, hR.s0, hR.snew, hR.slt, houtl.1.1, houtl.1.2, houtl.2, hR.obj, hR.inj, hR.yeq⟩, ?_⟩
  refine ⟨hH.low, hH.below, hH.lt, hH.s0, ⟨Ds, hd, hn, fun D hm => ?_⟩, fun D hm => hH.dm D (List.mem_append_right _ hm), fun l hl => hH.rds l (List.mem_append_right _ hl), hro, hH.lps, hH.ydom, hH.yinj⟩
  obtain ⟨h1, h2, h3⟩ := hH.dm D (List.mem_append_left _ hm)
  exact ⟨h1, h2, hdm D hm, h3⟩

/-- What is marked is taken, at a function's end. -/
theorem leaves_marks {fn : Func} {R : Ending → World → Prop} : ∀ (Ds : List Nat) {a : Act} {w : World}, RX C S0 G outs σ a w → a.defers = Ds.map mkD →
    (∀ w', RX C S0 G outs σ { a with defers := [] } w' → ∃ v, (Go.results fn a.tmps).run P w' = .ok v w' ∧ R (.returned v) w') → LeavesInM Fence.wide 0 P fn a.tmps R (Ds.map mkD) .returning w
  | [], a, w, h, hd, hk => by
    have : a = { a with defers := [] } := by cases a; simp at hd; simp [hd]
    exact hk w (this ▸ h)
  | D :: Ds, a, w, h, hd, hk => by
    obtain ⟨F, hR, hH⟩ := h.now
    obtain ⟨Es, e, hn, hD⟩ := hH.dfr
    have hE : Es = D :: Ds := by
      rw [hd] at e
      have inj : ∀ {x y : List Nat}, x.map mkD = y.map mkD → x = y := by
        intro x
        induction x with
        | nil => intro y h; cases y <;> simp_all
        | cons p q ih => intro y h; cases y with
          | nil => simp at h
          | cons u v =>
            simp only [List.map_cons, List.cons.injEq] at h
            have : p = u := by simpa [mkD] using h.1
            rw [this, ih h.2]
      exact (inj e).symm
    subst hE
    obtain ⟨hFD, hBD, hmD, hkD⟩ := hD D (by simp)
    refine ⟨by simp, .inl ⟨D, _, rfl, run_takeDeferred hkD, ?_⟩⟩
    have hlt : D < w.heap.size := hR.bsz D hFD
    have oth : ∀ k, k ≠ D → (w.putObj D (.deferred none)).heap[k]? = w.heap[k]? := fun k hk => World.putObj_heap_other hk
    have h2 : RX C S0 G outs σ { a with defers := Ds.map mkD } (w.putObj D (.deferred none)) := by
      have hR2 := hR.fxPut hFD (fun b' o hs0 e => by have := hH.s0 b' o hs0; omega) (.deferred none)
      refine ⟨F, _, ⟨hR2.below, hR2.bsz, hR2.s0, hR2.snew, hR2.slt, hR2.tml, hR2.tm, hR2.outl, hR2.obj, hR2.inj, hR2.yeq⟩, ?_⟩
      have hn2 := List.nodup_cons.1 hn
      refine ⟨hH.low, hH.below.trans ⟨rfl, rfl, rfl, by simp, fun k hk => oth k (by have hk : k < C.B := hk; omega), Nat.le_refl _⟩, fun k hk => by simpa using hH.lt k hk, hH.s0, ⟨Ds, rfl, hn2.2, fun E hm => ?_⟩, fun E hm => ?_, fun l hl => ?_, hH.ro, fun j t ht => ?_, hH.ydom, hH.yinj⟩
      · obtain ⟨h1, h2, h3, h4⟩ := hD E (by simp [hm])
        exact ⟨h1, h2, h3, (oth E (fun e => by subst e; exact hn2.1 hm)).trans h4⟩
      · obtain ⟨h1, h2, h3⟩ := hH.dm E hm
        exact ⟨h1, h2, (oth E (fun e => by subst e; exact hmD hm)).trans h3⟩
      · obtain ⟨h1, q, h2⟩ := hH.rds l hl
        exact ⟨h1, q, (oth l (fun e => by subst e; rw [hkD] at h2; cases h2)).trans h2⟩
      · obtain ⟨b2, r2, k1, k2, k3, k4, k5⟩ := hH.lps j t ht
        exact ⟨b2, r2, k1, k2, k3, k4, (oth b2 (fun e => by subst e; rw [hkD] at k5; cases k5)).trans k5⟩
    exact leaves_marks Ds (a := { a with defers := Ds.map mkD }) h2 rfl hk

/-! ### entering and leaving a loop -/
def updN {α : Type} (f : Nat → Option α) (i : Nat) (x : α) (j : Nat) : Option α := if j = i then some x else f j

theorem RX.enter (h : RX C S0 G outs σ a w) {i : Nat} (hn : σ.noY i = true) (hlp : lpAt i σ.lps = none) (fn : FuncId) (ps : Array Tmp) (asg body : Code) :
    ∃ l mark W r, (Instr.enterLoop fn a.tmps ps asg body (Fw C.ro).round).run P w = .ok (l, mark) W ∧ r.fn = fn ∧ r.params = ps ∧ r.tmps = a.tmps ∧ r.assign = asg ∧ r.body = body ∧
      RX { C with R := updN C.R i r } S0 { G with Y := updN outs.Y i l } { outs with Y := updN outs.Y i l } { σ with lps := (i, .ready) :: σ.lps } { a with defers := mark ++ a.defers } W := by
  obtain ⟨F, hR, hH⟩ := h.now
  have hYi : outs.Y i = none := by
    cases e : outs.Y i with
    | none => rfl
    | some b => obtain ⟨s, hs⟩ := hH.ydom i b e; rw [hlp] at hs; cases hs
  -- a block more for the record
  have fin : ∀ (F1 : Nat → Prop) (W0 : World) (mark : List Deferred) (r : Loop), Rel F1 W0 S0 G outs σ a W0 → Held C S0 outs σ.lps (mark ++ a.defers) F1 W0 → r.state = .ready → r.pending = none →
      RX { C with R := updN C.R i r } S0 { G with Y := updN outs.Y i W0.heap.size } { outs with Y := updN outs.Y i W0.heap.size } { σ with lps := (i, .ready) :: σ.lps } { a with defers := mark ++ a.defers } (W0.alloc (.loop r)) := by
    intro F1 W0 mark r hR1 hH1 hst hpe
    have hR2 := hR1.fxAlloc (.loop r)
    have hR3 := hR2.setY hn (Y' := updN outs.Y i W0.heap.size) (fun j hj => by simp [updN, hj])
    have old : ∀ k, k < W0.heap.size → (W0.alloc (.loop r)).heap[k]? = W0.heap[k]? := fun k hk => Below.heap_alloc W0 _ k hk
    refine ⟨_, _, ⟨hR3.below, hR3.bsz, hR3.s0, hR3.snew, hR3.slt, hR3.tml, hR3.tm, hR3.outl, hR3.obj, hR3.inj, hR3.yeq⟩, ?_⟩
    refine ⟨fun b hb => .inl (hH1.low b hb), hH1.below.alloc (by
        rcases Nat.lt_or_ge W0.heap.size C.B with hlt | hge
        · have := hH1.lt _ (hH1.low _ hlt); omega
        · exact fun k (hk : k < C.B) => Nat.lt_of_lt_of_le hk hge) _, fun b hb => ?_, hH1.s0, ?_, fun D hm => ?_, fun l hl => ?_, hH1.ro, fun j s hs => ?_, fun j b hb => ?_, fun j j' b hb hb' => ?_⟩
    · rcases hb with hb | rfl
      · have := hH1.lt b hb; simp; omega
      · simp
    · obtain ⟨Ds, e, hnd, hD⟩ := hH1.dfr
      refine ⟨Ds, e, hnd, fun D hm => ?_⟩
      obtain ⟨h1, h2, h3, h4⟩ := hD D hm
      exact ⟨.inl h1, h2, h3, (old D (hH1.lt D h1)).trans h4⟩
    · obtain ⟨h1, h2, h3⟩ := hH1.dm D hm
      exact ⟨.inl h1, h2, (old D (hH1.lt D h1)).trans h3⟩
    · obtain ⟨h1, q, h2⟩ := hH1.rds l hl
      exact ⟨.inl h1, q, (old l (hH1.lt l h1)).trans h2⟩
    · have hs2 : lpAt j ((i, .ready) :: σ.lps) = some s := hs
      simp only [lpAt] at hs2
      by_cases e : i = j
      · rw [if_pos e] at hs2
        simp only [Option.some.injEq] at hs2
        subst hs2
        subst e
        refine ⟨W0.heap.size, r, by simp [updN], by simp [updN], .inr rfl, ?_, ?_⟩
        · rcases Nat.lt_or_ge W0.heap.size C.B with hlt | hge
          · have := hH1.lt _ (hH1.low _ hlt); omega
          · exact hge
        · rw [World.alloc_heap_new]
          obtain ⟨_, _, _, _, _, _, _, _⟩ := r
          simp only at hst hpe
          subst hst hpe
          rfl
      · rw [if_neg e] at hs2
        obtain ⟨b, q, k1, k2, k3, k4, k5⟩ := hH1.lps j s hs2
        exact ⟨b, q, by simp [updN, Ne.symm e, k1], by simp [updN, Ne.symm e, k2], .inl k3, k4, (old b (hH1.lt b k3)).trans k5⟩
    · have hb : updN outs.Y i W0.heap.size j = some b := hb
      show ∃ s, lpAt j ((i, .ready) :: σ.lps) = some s
      simp only [updN] at hb
      split at hb
      · rename_i e
        subst e
        exact ⟨.ready, by simp [lpAt]⟩
      · rename_i e
        obtain ⟨s, hs⟩ := hH1.ydom j b hb
        exact ⟨s, by simp [lpAt, Ne.symm e, hs]⟩
    · have hb : updN outs.Y i W0.heap.size j = some b := hb
      have hb' : updN outs.Y i W0.heap.size j' = some b := hb'
      have big : ∀ q, outs.Y q = some W0.heap.size → False := fun q hq => by
        obtain ⟨s, hs⟩ := hH1.ydom q _ hq
        obtain ⟨b2, q2, k1, k2, k3, k4, k5⟩ := hH1.lps q s hs
        rw [hq] at k1
        simp only [Option.some.injEq] at k1
        subst k1
        exact Nat.lt_irrefl _ (hH1.lt _ k3)
      simp only [updN] at hb hb'
      split at hb
      · rename_i e
        simp only [Option.some.injEq] at hb
        subst hb
        split at hb'
        · rename_i e'; exact e.trans e'.symm
        · exact (big _ hb').elim
      · split at hb'
        · simp only [Option.some.injEq] at hb'
          subst hb'
          exact (big _ hb).elim
        · exact hH1.yinj j j' b hb hb'
  have hro : C.ro = none ∨ ∃ l0, C.ro = some l0 := by cases C.ro <;> simp
  rcases hro with hro | ⟨l0, hro⟩
  · obtain ⟨r, hr⟩ : ∃ r : Loop, r = { state := .ready, pending := none, fn := fn, tmps := a.tmps, params := ps, assign := asg, body := body, defers := w.heap.size } := ⟨_, rfl⟩
    refine ⟨w.heap.size + 1, [mkD w.heap.size], (w.alloc (.deferred (some []))).alloc (.loop r), r, ?_, by rw [hr], by rw [hr], by rw [hr], by rw [hr], by rw [hr], ?_⟩
    · show (Instr.enterLoop fn a.tmps ps asg body C.ro).run P w = _
      rw [hro, hr]
      exact run_enterLoop_outer _ _ _ _ _
    have hR1 := hR.fxAlloc (.deferred (some []))
    have old : ∀ k, k < w.heap.size → (w.alloc (.deferred (some []))).heap[k]? = w.heap[k]? := fun k hk => Below.heap_alloc w _ k hk
    have hBw : C.B ≤ w.heap.size := by
      rcases Nat.lt_or_ge w.heap.size C.B with hlt | hge
      · have := hH.lt _ (hH.low _ hlt); omega
      · exact hge
    have hH1 : Held C S0 outs σ.lps ([mkD w.heap.size] ++ a.defers) (fun b => F b ∨ b = w.heap.size) (w.alloc (.deferred (some []))) := by
      refine ⟨fun b hb => .inl (hH.low b hb), hH.below.alloc (fun k (hk : k < C.B) => Nat.lt_of_lt_of_le hk hBw) _, hR1.bsz, hH.s0, ?_, fun D hm => ?_, fun l hl => ?_, hH.ro, fun j s hs => ?_, hH.ydom, hH.yinj⟩
      · obtain ⟨Ds, e, hnd, hD⟩ := hH.dfr
        refine ⟨w.heap.size :: Ds, by simp [e], List.nodup_cons.2 ⟨fun hm => Nat.lt_irrefl _ (hH.lt _ (hD _ hm).1), hnd⟩, fun D hm => ?_⟩
        rcases List.mem_cons.1 hm with rfl | hm
        · exact ⟨.inr rfl, hBw, fun hm => Nat.lt_irrefl _ (hH.lt _ (hH.dm _ hm).1), World.alloc_heap_new w _⟩
        · obtain ⟨h1, h2, h3, h4⟩ := hD D hm
          exact ⟨.inl h1, h2, h3, (old D (hH.lt D h1)).trans h4⟩
      · obtain ⟨h1, h2, h3⟩ := hH.dm D hm
        exact ⟨.inl h1, h2, (old D (hH.lt D h1)).trans h3⟩
      · obtain ⟨h1, q, h2⟩ := hH.rds l hl
        exact ⟨.inl h1, q, (old l (hH.lt l h1)).trans h2⟩
      · obtain ⟨b, q, k1, k2, k3, k4, k5⟩ := hH.lps j s hs
        exact ⟨b, q, k1, k2, .inl k3, k4, (old b (hH.lt b k3)).trans k5⟩
    have := fin _ _ [mkD w.heap.size] r hR1 hH1 (by rw [hr]) (by rw [hr])
    simpa using this
  · obtain ⟨h1, r0, h2⟩ := hH.rds l0 (hH.ro l0 hro)
    obtain ⟨r, hr⟩ : ∃ r : Loop, r = { state := .ready, pending := none, fn := fn, tmps := a.tmps, params := ps, assign := asg, body := body, defers := r0.defers } := ⟨_, rfl⟩
    refine ⟨w.heap.size, [], w.alloc (.loop r), r, ?_, by rw [hr], by rw [hr], by rw [hr], by rw [hr], by rw [hr], fin F w [] r hR (by simpa using hH) (by rw [hr]) (by rw [hr])⟩
    show (Instr.enterLoop fn a.tmps ps asg body C.ro).run P w = _
    rw [hro, hr]
    exact run_enterLoop_inner h2 _ _ _ _ _

theorem RX.leave {i l : Nat} {st : LSt} {r : Loop} {rest : List (Nat × LSt)} (h : RX { C with R := updN C.R i r } S0 G { outs with Y := updN outs.Y i l } σ a w) (hl : σ.lps = (i, st) :: rest) (hst : st ≠ .busy) (hrest : lpAt i rest = none) (hYi : outs.Y i = none) :
    (Instr.endLoop l).run P w = .ok (recAt r st).pending (w.putObj l (.loop { recAt r st with state := .exhausted })) ∧
      RX C S0 { G with Y := outs.Y } outs { σ with lps := rest } a (w.putObj l (.loop { recAt r st with state := .exhausted })) := by
  have hrec := h.rec (i := i) (b := l) (s := st) (r := r) (by rw [hl]; simp [lpAt]) (by simp [updN]) (by simp [updN])
  refine ⟨run_endLoop hrec (by cases st <;> simp_all [recAt]), ?_⟩
  obtain ⟨F, hR, hH⟩ := h.now
  obtain ⟨b', r', e1, e2, hFl, hBl, hbk⟩ := hH.lps i st (by rw [hl]; simp [lpAt])
  have e1 : updN outs.Y i l i = some b' := e1
  simp only [updN, if_true, Option.some.injEq] at e1
  subst e1
  have hlt : l < w.heap.size := hR.bsz l hFl
  have hR2 := hR.fxPut hFl (fun b' o hs0 e => by have := hH.s0 b' o hs0; have : C.B ≤ l := hBl; have : b' < C.B := hH.s0 b' o hs0; omega) (.loop { recAt r st with state := .exhausted })
  have hR3 := hR2.lessY (Y' := outs.Y) (fun j b hb => by
    show updN outs.Y i l j = some b
    simp only [updN]
    rw [if_neg (fun e => by subst e; rw [hYi] at hb; cases hb)]
    exact hb)
  have oth : ∀ k, k ≠ l → (w.putObj l (.loop { recAt r st with state := .exhausted })).heap[k]? = w.heap[k]? := fun k hk => World.putObj_heap_other hk
  refine ⟨F, _, ⟨hR3.below, hR3.bsz, hR3.s0, hR3.snew, hR3.slt, hR3.tml, hR3.tm, hR3.outl, hR3.obj, hR3.inj, hR3.yeq⟩, ?_⟩
  refine ⟨hH.low, hH.below.trans ⟨rfl, rfl, rfl, by simp, fun k hk => oth k (by have : C.B ≤ l := hBl; have : k < C.B := hk; omega), Nat.le_refl _⟩, fun k hk => by simpa using hH.lt k hk, hH.s0, ?_, fun D hD => ?_, fun l' hl' => ?_, hH.ro, fun j t ht => ?_, fun j b2 hb2 => ?_, fun j j' b hb hb' => ?_⟩
  · obtain ⟨Ds, e, hn, hD⟩ := hH.dfr
    refine ⟨Ds, e, hn, fun D hm => ?_⟩
    obtain ⟨h1, h2, h3, h4⟩ := hD D hm
    exact ⟨h1, h2, h3, (oth D (fun e => by subst e; rw [hbk] at h4; cases h4)).trans h4⟩
  · obtain ⟨h1, h2, h3⟩ := hH.dm D hD
    exact ⟨h1, h2, (oth D (fun e => by subst e; rw [hbk] at h3; cases h3)).trans h3⟩
  · obtain ⟨h1, q, h2⟩ := hH.rds l' hl'
    refine ⟨h1, ?_⟩
    by_cases e : l' = l
    · subst e; exact ⟨_, World.putObj_heap_same hlt⟩
    · exact ⟨q, (oth l' e).trans h2⟩
  · have ht : lpAt j rest = some t := ht
    have hji : j ≠ i := fun e => by subst e; rw [hrest] at ht; cases ht
    obtain ⟨b2, r2, k1, k2, k3, k4, k5⟩ := hH.lps j t (by rw [hl]; simp [lpAt, Ne.symm hji, ht])
    have k1' : updN outs.Y i l j = some b2 := k1
    have k2' : updN C.R i r j = some r2 := k2
    simp only [updN, if_neg hji] at k1' k2'
    refine ⟨b2, r2, k1', k2', k3, k4, (oth b2 (fun e => ?_)).trans k5⟩
    exact hji (hH.yinj j i l (e ▸ k1) (by simp [updN]))
  · have hji : j ≠ i := fun e => by subst e; rw [hYi] at hb2; cases hb2
    obtain ⟨s, hs⟩ := hH.ydom j b2 (show updN outs.Y i l j = some b2 by simp only [updN, if_neg hji]; exact hb2)
    rw [hl] at hs
    simp only [lpAt, if_neg (Ne.symm hji)] at hs
    exact ⟨s, hs⟩
  · have hji : j ≠ i := fun e => by subst e; rw [hYi] at hb; cases hb
    have hji' : j' ≠ i := fun e => by subst e; rw [hYi] at hb'; cases hb'
    exact hH.yinj j j' b (show updN outs.Y i l j = some b by simp only [updN, if_neg hji]; exact hb) (show updN outs.Y i l j' = some b by simp only [updN, if_neg hji']; exact hb')

/-! ### a round's first state -/
theorem setPs_rel {w : World} {look : Look} : ∀ {ts : List Tmp} {avs : List AV} {args : List Value} {tm : Tm} {arr : Array Value}, All2 (VR G w look) avs args → tm.length ≤ arr.size → (∀ t, VR G w look (get tm t) (arr.getD t Go.undef)) →
    (setPs ts avs tm).length ≤ ((ts.zip args).foldl (fun tmps (q : Tmp × Value) => tmps.setIfInBounds q.1 q.2) arr).size ∧ ∀ t, VR G w look (get (setPs ts avs tm) t) (((ts.zip args).foldl (fun tmps (q : Tmp × Value) => tmps.setIfInBounds q.1 q.2) arr).getD t Go.undef)
  | [], avs, args, tm, arr, hv, hl, h => by
    cases avs <;> exact ⟨hl, h⟩
  | t :: ts, [], args, tm, arr, hv, hl, h => by
    cases args with
    | nil => exact ⟨hl, h⟩
    | cons _ _ => exact hv.elim
  | t :: ts, v :: avs, args, tm, arr, hv, hl, h => by
    cases args with
    | nil => exact hv.elim
    | cons u us =>
      simp only [setPs, List.zip_cons_cons, List.foldl_cons]
      refine setPs_rel hv.2 (by simpa [Tm.length_set] using hl) fun t' => ?_
      rw [get_set]
      by_cases e : t' = t
      · subst e
        by_cases hlt : t' < tm.length
        · rw [if_pos ⟨rfl, hlt⟩]
          have : (arr.setIfInBounds t' u).getD t' Go.undef = u := by simp [Array.getD_eq_getD_getElem?, Array.getElem?_setIfInBounds, show t' < arr.size by omega]
          rw [this]; exact hv.1
        · rw [if_neg (fun q => hlt q.2)]
          have : get tm t' = .undef := get_ge (Nat.le_of_not_lt hlt)
          rw [this]; simp only [VR, VR1, VR0]
      · rw [if_neg (fun q => e q.1)]
        have : (arr.setIfInBounds t u).getD t' Go.undef = arr.getD t' Go.undef := by simp [Array.getD_eq_getD_getElem?, Array.getElem?_setIfInBounds, Ne.symm e]
        rw [this]; exact h t'

theorem frame_rel {w : World} {look : Look} {l : List Tm} {m : List (Array Value)} (k : Nat) {tm : Tm} {arr : Array Value} (h : All2 (fun (l : Tm) (arr : Array Value) => l.length ≤ arr.size ∧ ∀ t, VR G w look (get l t) (arr.getD t Go.undef)) l m)
    (h1 : l[k]? = some tm) (h2 : m[k]? = some arr) : tm.length ≤ arr.size ∧ ∀ t, VR G w look (get tm t) (arr.getD t Go.undef) := by
  obtain ⟨b, hb, hr⟩ := All2.get h k tm h1
  rw [h2] at hb
  simp only [Option.some.injEq] at hb
  subst hb
  exact hr
end
end Go.Pi
end

section
namespace Go.Pi
open Go.RowKit
set_option linter.unusedSimpArgs false
set_option linter.unusedVariables false

section
variable {P : Program} {B : Nat → Prop} {w0 : World} {S0 : Cells} {G G' : Gh} {outs : Outs} {σ : St} {a : Act} {w w' : World} {o : Oper}
variable {K : Act → World → Prop} {Q : Exit → Act → World → Prop} {E : Env} {inl : Inl}

def exOf : Ex → Exit
  | .normal => .normal
  | .exit i => .exit i
  | .ret => .ret

/-- The first so many operations have been done, and no others. -/
structure LsUp (ops : Array Oper) (listed : Array Bool) (s : Nat) : Prop where
  size : listed.size = ops.size
  yes : ∀ m, m < s → listed.getD m false = true
  no : ∀ m, s ≤ m → listed.getD m false = false
/-- A part of a statement that draws its order. -/
def DrawOK (P : Program) (E : Env) : Prop :=
  ∀ (ro : Option Nat) (B : Nat → Prop) (w0 : World) (S0 : Cells) (outs : Outs) (G : Gh) (σ : St) (a : Act) (w : World) (Q : Exit → Act → World → Prop) (own : List Nat) (path rid : Nat) (ops : Array Oper) (k : St → Prop) (s N : Nat),
    Rel B w0 S0 G outs σ a w → drawOk ops = true → s ≤ N → N ≤ ops.size → cutOK ops N = true → goD P E own path rid ops.size (befores ops.toList []) ops ((ops.toList.take N).drop s) s (fun X => X) (idSt ops σ s) k →
    (∀ σ' G' a' w' fuel listed, LsUp ops listed N → ops.size - N ≤ fuel → Pres σ σ' → Rel B w0 S0 G' outs σ' a' w' → a'.defers = a.defers → σ'.lps = σ.lps → k σ' → wpAnyIn (Fw ro) 0 P .any ops Q fuel listed a' w') →
    ∀ fuel listed, LsUp ops listed s → ops.size - s ≤ fuel → wpAnyIn (Fw ro) 0 P .any ops Q fuel listed a w
/-- A part of one operation. -/
def DrawOne (P : Program) : Prop :=
  ∀ (ro : Option Nat) (a : Act) (w : World) (Q : Exit → Act → World → Prop) (ops : Array Oper) (s : Nat), drawOk ops = true → s < ops.size → cutOK ops (s + 1) = true →
    wpOpIn (Fw ro) 0 P ops Q s (fun a w => ∀ fuel listed, LsUp ops listed (s + 1) → ops.size - (s + 1) ≤ fuel → wpAnyIn (Fw ro) 0 P .any ops Q fuel listed a w) a w →
    ∀ fuel listed, LsUp ops listed s → ops.size - s ≤ fuel → wpAnyIn (Fw ro) 0 P .any ops Q fuel listed a w
def DrawEnd (P : Program) : Prop :=
  ∀ (ro : Option Nat) (a : Act) (w : World) (Q : Exit → Act → World → Prop) (ops : Array Oper), Q .normal a w → ∀ fuel listed, LsUp ops listed ops.size → wpAnyIn (Fw ro) 0 P .any ops Q fuel listed a w

/-! ### what is kept at a loop -/
/-- The slots at a loop's head: data, or as at the entry, or nothing. -/
theorem mkT_get {σ0 : St} {obs : List (Nat × OTpl)} : ∀ {tms : List (Nat × Tpl)} {v : (schT tms obs).D} {tm : Tm} (t : Nat),
    t ∈ dataT tms ∨ get (mkT σ0 tms obs v tm).1 t = get σ0.tm t ∨ get (mkT σ0 tms obs v tm).1 t = get tm t
  | [], v, tm, t => .inr (.inr rfl)
  | (u, tpl) :: r, v, tm, t => by
    have rest : ∀ (av : AV) (v' : (schT r obs).D), (t ∈ dataT r ∨ get (mkT σ0 r obs v' (tm.set u av)).1 t = get σ0.tm t ∨ get (mkT σ0 r obs v' (tm.set u av)).1 t = get (tm.set u av) t) →
        t ∈ dataT r ∨ get (mkT σ0 r obs v' (tm.set u av)).1 t = get σ0.tm t ∨ get (mkT σ0 r obs v' (tm.set u av)).1 t = get tm t ∨ (t = u ∧ get (mkT σ0 r obs v' (tm.set u av)).1 t = av) := by
      intro av v' h
      rcases h with h | h | h
      · exact .inl h
      · exact .inr (.inl h)
      · rw [get_set] at h
        split at h
        · rename_i e; exact .inr (.inr (.inr ⟨e.1, h⟩))
        · exact .inr (.inr (.inl h))
    cases tpl with
    | data ag s =>
      rcases rest (encTy (ag, s) v.1) v.2 (mkT_get t) with h | h | h | h
      · exact .inl (.tail _ h)
      · exact .inr (.inl h)
      · exact .inr (.inr h)
      · exact .inl (h.1 ▸ .head _)
    | keep =>
      rcases rest (get σ0.tm u) v (mkT_get t) with h | h | h | h
      · exact .inl h
      · exact .inr (.inl h)
      · exact .inr (.inr h)
      · exact .inr (.inl (by rw [h.1]; exact h.1 ▸ h.2))
    | ref o =>
      rcases rest (.ref o 0) v (mkT_get t) with h | h | h | h
      · exact .inl (.tail _ h)
      · exact .inr (.inl h)
      · exact .inr (.inr h)
      · exact .inl (h.1 ▸ .head _)
    | ptr o =>
      rcases rest (.ptr o 0) v (mkT_get t) with h | h | h | h
      · exact .inl (.tail _ h)
      · exact .inr (.inl h)
      · exact .inr (.inr h)
      · exact .inl (h.1 ▸ .head _)

theorem mkT_len {σ0 : St} {obs : List (Nat × OTpl)} : ∀ {tms : List (Nat × Tpl)} {v : (schT tms obs).D} {tm : Tm}, (mkT σ0 tms obs v tm).1.length = tm.length
  | [], v, tm => rfl
  | (u, .data ag s) :: r, v, tm => (mkT_len (tms := r)).trans (Tm.length_set ..)
  | (u, .keep) :: r, v, tm => (mkT_len (tms := r)).trans (Tm.length_set ..)
  | (u, .ref o) :: r, v, tm => (mkT_len (tms := r)).trans (Tm.length_set ..)
  | (u, .ptr o) :: r, v, tm => (mkT_len (tms := r)).trans (Tm.length_set ..)

theorem mkO_get {σ0 : St} : ∀ {obs : List (Nat × OTpl)} {y : (schO obs).D} {o : Nat} {ob : Ob}, lk o (mkO σ0 obs y) = some ob → o ∈ dataO obs ∨ lk o σ0.sto = some ob
  | [], y, o, ob, h => by simp [mkO, lk] at h
  | (p, tpl) :: r, y, o, ob, h => by
    have hd : ∀ {ob' : Ob} {l : List (Nat × Ob)}, lk o ((p, ob') :: l) = some ob → (p = o) ∨ lk o l = some ob := by
      intro ob' l h
      simp only [lk] at h
      split at h
      · rename_i e; exact .inl e
      · exact .inr h
    cases tpl with
    | keep =>
      simp only [mkO] at h
      split at h
      · rename_i ob' hob'
        simp only [lk] at h
        split at h
        · rename_i e
          subst e
          simp at h; subst h
          exact .inr hob'
        · exact mkO_get (obs := r) h
      · exact mkO_get (obs := r) h
    | arr m s =>
      rcases hd h with rfl | h
      · exact .inl (.head _)
      · exact (mkO_get (obs := r) h).imp (.tail _) id
    | cells l =>
      rcases hd h with rfl | h
      · exact .inl (.head _)
      · exact (mkO_get (obs := r) h).imp (.tail _) id
    | via t l =>
      rcases hd h with rfl | h
      · exact .inl (.head _)
      · exact (mkO_get (obs := r) h).imp (.tail _) id
    | map ka va ks vs =>
      rcases hd h with rfl | h
      · exact .inl (.head _)
      · exact (mkO_get (obs := r) h).imp (.tail _) id
    | it mo ks vs =>
      rcases hd h with rfl | h
      · exact .inl (.head _)
      · exact (mkO_get (obs := r) h).imp (.tail _) id

theorem mkT_snd {σ0 : St} {obs : List (Nat × OTpl)} : ∀ {tms : List (Nat × Tpl)} {v : (schT tms obs).D} {tm : Tm}, ∃ y, (mkT σ0 tms obs v tm).2 = mkO σ0 obs y
  | [], v, tm => ⟨v, rfl⟩
  | (u, .data ag s) :: r, v, tm => mkT_snd (tms := r)
  | (u, .keep) :: r, v, tm => mkT_snd (tms := r)
  | (u, .ref o) :: r, v, tm => mkT_snd (tms := r)
  | (u, .ptr o) :: r, v, tm => mkT_snd (tms := r)

/-- From the loop's entry to wherever it is left. -/
theorem Pres.after {A : LAnn} {σ σ' : St} {v : A.S.D} (h : Pres (A.mk' σ v) σ') : Pres σ (A.after σ σ') := by
  have hundef : ∀ t, get (Tm.none σ.tm.length) t = .undef := fun t => get_none _ t
  refine ⟨fun t => ?_, fun t ht => List.mem_append_right _ (List.mem_append_right _ ht), fun o => ?_, fun o ho => List.mem_append_right _ (List.mem_append_right _ ho), h.outs, ?_⟩
  · rcases h.tm t with h1 | h1 | h1
    · exact .inl (List.mem_append_left _ h1)
    · rcases mkT_get (σ0 := σ) (tms := A.tms) (obs := A.obs) (v := v) (tm := Tm.none σ.tm.length) t with h2 | h2 | h2
      · exact .inl (List.mem_append_right _ (List.mem_append_left _ h2))
      · exact .inr (.inl (h1.trans h2))
      · exact .inr (.inr (h1.trans (h2.trans (hundef t))))
    · exact .inr (.inr h1)
  · rcases h.ob o with h1 | h1
    · exact .inl (List.mem_append_left _ h1)
    · by_cases hd : o ∈ dataO A.obs
      · exact .inl (List.mem_append_right _ (List.mem_append_left _ hd))
      · refine .inr fun ob hob => ?_
        have h2 := h1 ob hob
        obtain ⟨y, hy⟩ := mkT_snd (σ0 := σ) (tms := A.tms) (obs := A.obs) (v := v) (tm := Tm.none σ.tm.length)
        have h2 : lk o (mkT σ A.tms A.obs v (Tm.none σ.tm.length)).2 = some ob := h2
        rw [hy] at h2
        rcases mkO_get h2 with h3 | h3
        · exact (hd h3).elim
        · exact h3
  · have : (A.mk' σ v).tm.length = σ.tm.length := by
      show (mkT σ A.tms A.obs v (Tm.none σ.tm.length)).1.length = _
      rw [mkT_len]; rfl
    exact h.len.trans this

/-- What is kept, behind a round. -/
theorem mkT_keep {σ0 : St} {obs : List (Nat × OTpl)} {t : Nat} : ∀ {tms : List (Nat × Tpl)} {v : (schT tms obs).D} {tm : Tm}, t ∉ dataT tms → get tm t = get σ0.tm t → get (mkT σ0 tms obs v tm).1 t = get σ0.tm t
  | [], v, tm, _, h => h
  | (u, tpl) :: r, v, tm, hn, h => by
    have rest : ∀ av, (t = u → av = get σ0.tm u) → get (tm.set u av) t = get σ0.tm t := fun av ha => by
      rw [get_set]
      split
      · rename_i e; rw [ha e.1, e.1]
      · exact h
    cases tpl with
    | data ag s => simp only [dataT, List.mem_cons, not_or] at hn; exact mkT_keep (tms := r) hn.2 (rest _ fun e => (hn.1 e).elim)
    | keep => exact mkT_keep (tms := r) hn (rest _ fun _ => rfl)
    | ref o => simp only [dataT, List.mem_cons, not_or] at hn; exact mkT_keep (tms := r) hn.2 (rest _ fun e => (hn.1 e).elim)
    | ptr o => simp only [dataT, List.mem_cons, not_or] at hn; exact mkT_keep (tms := r) hn.2 (rest _ fun e => (hn.1 e).elim)

end
end Go.Pi
end

section
namespace Go.Pi
open Go.RowKit
set_option linter.unusedSimpArgs false
set_option linter.unusedVariables false

section
variable {P : Program} {B : Nat → Prop} {w0 : World} {S0 : Cells} {G G' : Gh} {outs : Outs} {σ : St} {a : Act} {w w' : World} {o : Oper}
variable {K : Act → World → Prop} {Q : Exit → Act → World → Prop} {E : Env} {inl : Inl}

theorem nodup_not {α : Type} {f : α → Nat} {p : α → Bool} : ∀ {l : List α} {x y : α}, nodupN (l.map f) = true → x ∈ l → y ∈ l → f x = f y → p x = p y := fun hn hx hy e => by rw [nodup_inj hn hx hy e]

theorem dataT_mem {t : Nat} : ∀ {tms : List (Nat × Tpl)}, t ∈ dataT tms → ∃ tpl, (t, tpl) ∈ tms ∧ tpl ≠ .keep
  | [], h => by simp [dataT] at h
  | (u, tpl) :: r, h => by
    have rest : t ∈ dataT r → ∃ tpl', (t, tpl') ∈ (u, tpl) :: r ∧ tpl' ≠ .keep := fun h => by
      obtain ⟨q, h1, h2⟩ := dataT_mem h
      exact ⟨q, .tail _ h1, h2⟩
    cases tpl with
    | keep => exact rest h
    | _ =>
      simp only [dataT, List.mem_cons] at h
      rcases h with rfl | h
      · exact ⟨_, .head _, by simp⟩
      · exact rest h

theorem dataO_mem {o : Nat} : ∀ {obs : List (Nat × OTpl)}, o ∈ dataO obs → ∃ tpl, (o, tpl) ∈ obs ∧ tpl ≠ .keep
  | [], h => by simp [dataO] at h
  | (u, tpl) :: r, h => by
    have rest : o ∈ dataO r → ∃ tpl', (o, tpl') ∈ (u, tpl) :: r ∧ tpl' ≠ .keep := fun h => by
      obtain ⟨q, h1, h2⟩ := dataO_mem h
      exact ⟨q, .tail _ h1, h2⟩
    cases tpl with
    | keep => exact rest h
    | _ =>
      simp only [dataO, List.mem_cons] at h
      rcases h with rfl | h
      · exact ⟨_, .head _, by simp⟩
      · exact rest h

theorem keep_join {A : LAnn} {σ σ' : St} (h : Pres { σ with dt := [], dob := [] } σ') (hk : A.keepOK σ σ' = true) :
    (∀ t, (t, Tpl.keep) ∈ A.tms → get σ'.tm t = get σ.tm t ∨ get σ.tm t = .undef) ∧ (∀ o, (o, OTpl.keep) ∈ A.obs → ∃ ob, lk o σ.sto = some ob ∧ lk o σ'.sto = some ob) ∧ σ'.outs = σ.outs ∧ σ'.tm.length = σ.tm.length := by
  unfold LAnn.keepOK at hk
  simp only [Bool.and_eq_true] at hk
  obtain ⟨⟨_, hkT⟩, hkO⟩ := hk
  refine ⟨fun t hm => ?_, fun o hm => ?_, h.outs, h.len⟩
  · have h1 := List.all_eq_true.1 hkT _ hm
    simp only [Bool.and_eq_true, Bool.not_eq_true', List.contains_eq_mem, decide_eq_false_iff_not] at h1
    obtain ⟨hdt, hdead⟩ := h1
    rcases h.tm t with h2 | h2 | h2
    · exact (hdt h2).elim
    · exact .inl h2
    · rw [h2] at hdead
      refine .inr ?_
      cases hg : get σ.tm t <;> simp [AV.dead, hg] at hdead <;> rfl
  · have h1 := List.all_eq_true.1 hkO _ hm
    simp only [Bool.and_eq_true, Bool.not_eq_true', List.contains_eq_mem, decide_eq_false_iff_not] at h1
    obtain ⟨hdob, hsome⟩ := h1
    cases hl : lk o σ'.sto with
    | none => rw [hl] at hsome; cases hsome
    | some ob =>
      rcases h.ob o with h2 | h2
      · exact (hdob h2).elim
      · exact ⟨ob, h2 ob hl, rfl⟩

theorem Pres.after0 {σ σ' : St} (h : Pres { σ with dt := [], dob := [] } σ') : Pres σ (LAnn.after0 σ σ') := by
  refine ⟨fun t => ?_, fun t ht => List.mem_append_right _ ht, fun o => ?_, fun o ho => List.mem_append_right _ ho, h.outs, h.len⟩
  · rcases h.tm t with h2 | h2 | h2
    · exact .inl (List.mem_append_left _ h2)
    · exact .inr (.inl h2)
    · exact .inr (.inr h2)
  · rcases h.ob o with h2 | h2
    · exact .inl (List.mem_append_left _ h2)
    · exact .inr h2

theorem keep_round {A : LAnn} {σ σ' : St} {v : A.S.D} (h : Pres (A.mk' σ v) σ') (hok : A.okAt σ = true) (hk : A.keepOK σ σ' = true) :
    (∀ t, (t, Tpl.keep) ∈ A.tms → get σ'.tm t = get σ.tm t ∨ get σ.tm t = .undef) ∧ (∀ o, (o, OTpl.keep) ∈ A.obs → ∃ ob, lk o σ.sto = some ob ∧ lk o σ'.sto = some ob) ∧ σ'.outs = σ.outs ∧ σ'.tm.length = σ.tm.length := by
  unfold LAnn.okAt at hok
  simp only [Bool.and_eq_true] at hok
  obtain ⟨⟨⟨⟨hids, _⟩, _⟩, _⟩, htms⟩ := hok
  unfold LAnn.keepOK at hk
  simp only [Bool.and_eq_true] at hk
  obtain ⟨⟨_, hkT⟩, hkO⟩ := hk
  have hundef : ∀ t, get (Tm.none σ.tm.length) t = .undef := fun t => get_none _ t
  refine ⟨fun t hm => ?_, fun o hm => ?_, h.outs, ?_⟩
  · have h1 := List.all_eq_true.1 hkT _ hm
    simp only [Bool.and_eq_true, Bool.not_eq_true', List.contains_eq_mem, decide_eq_false_iff_not] at h1
    obtain ⟨hdt, hdead⟩ := h1
    have dead : get σ'.tm t = .undef → get σ.tm t = .undef := fun e => by
      rw [e] at hdead
      cases hg : get σ.tm t <;> simp [AV.dead, hg] at hdead <;> rfl
    rcases h.tm t with h2 | h2 | h2
    · exact (hdt h2).elim
    · have hnd : t ∉ dataT A.tms := fun hd => by
        obtain ⟨tpl, h3, h4⟩ := dataT_mem hd
        have := nodup_inj (f := (·.1)) htms hm h3 rfl
        simp at this
        exact h4 this.symm
      rcases mkT_get (σ0 := σ) (tms := A.tms) (obs := A.obs) (v := v) (tm := Tm.none σ.tm.length) t with h3 | h3 | h3
      · exact (hnd h3).elim
      · exact .inl (h2.trans h3)
      · exact .inr (dead (h2.trans (h3.trans (hundef t))))
    · exact .inr (dead h2)
  · have h1 := List.all_eq_true.1 hkO _ hm
    simp only [Bool.and_eq_true, Bool.not_eq_true', List.contains_eq_mem, decide_eq_false_iff_not] at h1
    obtain ⟨hdob, hsome⟩ := h1
    obtain ⟨ob, hob⟩ := Option.isSome_iff_exists.1 hsome
    refine ⟨ob, ?_, hob⟩
    rcases h.ob o with h2 | h2
    · exact (hdob h2).elim
    · have h3 := h2 ob hob
      obtain ⟨y, hy⟩ := mkT_snd (σ0 := σ) (tms := A.tms) (obs := A.obs) (v := v) (tm := Tm.none σ.tm.length)
      have h3 : lk o (mkT σ A.tms A.obs v (Tm.none σ.tm.length)).2 = some ob := h3
      rw [hy] at h3
      rcases mkO_get h3 with h4 | h4
      · obtain ⟨tpl, h5, h6⟩ := dataO_mem h4
        have hids : nodupN (A.obs.map (·.1)) = true := hids
        have := nodup_inj (f := (·.1)) hids hm h5 rfl
        simp at this
        exact (h6 this.symm).elim
      · exact h4
  · have : (A.mk' σ v).tm.length = σ.tm.length := by
      show (mkT σ A.tms A.obs v (Tm.none σ.tm.length)).1.length = _
      rw [mkT_len]; rfl
    exact h.len.trans this

theorem RX.ext {C : Ctx} {A : LAnn} {σ0 : St} {v : A.S.D} (h : RX C S0 G outs σ a w) (hlps : σ.lps = σ0.lps) (hok : A.okAt σ0 = true) (hkT : ∀ t, (t, Tpl.keep) ∈ A.tms → get σ.tm t = get σ0.tm t ∨ get σ0.tm t = .undef)
    (hkO : ∀ o, (o, OTpl.keep) ∈ A.obs → ∃ ob, lk o σ0.sto = some ob ∧ lk o σ.sto = some ob) (hout : σ.outs = σ0.outs) (hlen : σ.tm.length = σ0.tm.length) (he : A.ext σ = some v) : ∃ G', RX C S0 G' outs (A.mk' σ0 v) a w := by
  obtain ⟨F, w1, hR, hc⟩ := h.use
  obtain ⟨G', h'⟩ := ext_rel hR hok hkT hkO hout hlen he
  exact ⟨G', hc _ _ _ _ h' rfl hlps.symm⟩

theorem RX.congr {C : Ctx} {σ' : St} (h : RX C S0 G outs σ a w) (htm : σ'.tm = σ.tm) (hout : σ'.outs = σ.outs) (hlk : ∀ p, lk p σ'.sto = lk p σ.sto) (hl : σ'.lps = σ.lps) : RX C S0 G outs σ' a w := by
  obtain ⟨F, w1, hR, hc⟩ := h.use
  exact hc _ _ _ _ (hR.congr htm hout hlk) rfl hl

theorem keepOK_lps {A : LAnn} {σ σ' : St} (hk : A.keepOK σ σ' = true) : σ'.lps = σ.lps := by
  unfold LAnn.keepOK at hk
  simp only [Bool.and_eq_true, decide_eq_true_eq] at hk
  exact hk.1.1

theorem exit_wp {C : Ctx} {e : Ex} (h : Q (exOf e) a w) : (jumpOf e).wpIn (Fw C.ro) 0 P Q a w := by
  cases e with
  | normal => exact wpIn_skip h
  | exit i => exact wpIn_exit h
  | ret => exact wpIn_ret h

theorem goS_sound (hP : ProgOK P) (hE : EnvOK P E) (hD : DrawOK P E ∧ DrawOne P ∧ DrawEnd P) (hI : InlOK P inl) {C : Ctx} {outs : Outs} {Y : Ys} (hY : YsOK P S0 C outs Y) {own : List Nat} {path rid : Nat} {ops : Array Oper} {k : St → Prop} (hdr : drawOk ops = true) :
    ∀ (cuts : List Nat) (s : Nat) {G : Gh} {σ : St} {a : Act} {w : World}, RX C S0 G outs σ a w → goS P E own (inl Y) Y path rid ops cuts s σ k → (∀ σ' G' a' w', Pres σ σ' → RX C S0 G' outs σ' a' w' → k σ' → Q .normal a' w') →
      ∀ fuel listed, LsUp ops listed s → ops.size - s ≤ fuel → wpAnyIn (Fw C.ro) 0 P .any ops Q fuel listed a w
  | [], s, G, σ, a, w, h, hs, hk => fun fuel listed hl hf => by
    unfold goS at hs
    split at hs
    · rename_i hd
      have : s = ops.size := of_decide_eq_true hd
      subst this
      exact hD.2.2 C.ro a w Q ops (hk σ G a w (Pres.refl σ) h hs) fuel listed hl
    · exact hs.elim
  | e :: r, s, G, σ, a, w, h, hs, hk => fun fuel listed hl hf => by
    unfold goS at hs
    split at hs
    · exact hs.elim
    · rename_i hc
      simp only [Bool.and_eq_true, decide_eq_true_eq] at hc
      obtain ⟨hse, hes, hcut⟩ := hc
      split at hs
      · rename_i he
        have he : e = s + 1 := of_decide_eq_true he
        subst he
        have hlt : s < ops.size := by omega
        have hdrop : (ops.toList.take (s + 1)).drop s = [ops[s]] := by
          apply List.ext_getElem
          · simp; omega
          · intro n h1 h2
            simp at h1 h2
            subst h2
            simp
        rw [hdrop] at hs
        refine hD.2.1 C.ro a w Q ops s hdr hlt hcut ?_ fuel listed hl hf
        exact goOne_sound hP hE hI hY (Array.getElem?_eq_getElem hlt) h hs fun σ' G' a' w' hp hR hk' fuel' listed' hl' hf' =>
          goS_sound hP hE hD hI hY hdr r (s + 1) hR hk' (fun σ'' G'' a'' w'' hp' => hk σ'' G'' a'' w'' (hp.trans hp')) fuel' listed' hl' hf'
      · obtain ⟨F, w1, hR, hcl⟩ := h.use
        refine hD.1 C.ro F w1 S0 outs G σ a w Q own path rid ops _ s e hR hdr (by omega) hes hcut hs (fun σ' G' a' w' fuel' listed' hl' hf' hp hR' hd' hlp hk' => ?_) fuel listed hl hf
        exact goS_sound hP hE hD hI hY hdr r e (hcl _ _ _ _ hR' hd' hlp) hk' (fun σ'' G'' a'' w'' hp' => hk σ'' G'' a'' w'' (hp.trans hp')) fuel' listed' hl' hf'

theorem run_sound (hP : ProgOK P) (hE : EnvOK P E) (hD : DrawOK P E ∧ DrawOne P ∧ DrawEnd P) (A : Anns) (hI : InlOK P inl) (c : Code) :
    ∀ (C : Ctx) (outs : Outs) (Y : Ys) (path n : Nat) (σ : St) (k : Ex → St → Prop) (G : Gh) (a : Act) (w : World) (Q : Exit → Act → World → Prop), YsOK P S0 C outs Y → run P E A inl Y path c n σ k → RX C S0 G outs σ a w →
      (∀ e σ' G' a' w', Pres σ σ' → RX C S0 G' outs σ' a' w' → k e σ' → Q (exOf e) a' w') → c.wpIn (Fw C.ro) 0 P Q a w := by
  induction c with
  | skip => intro C outs Y path n σ k G a w Q hY hr h hk; exact wpIn_skip (hk .normal σ G a w (Pres.refl σ) h hr)
  | ret => intro C outs Y path n σ k G a w Q hY hr h hk; exact wpIn_ret (hk .ret σ G a w (Pres.refl σ) h hr)
  | exit i => intro C outs Y path n σ k G a w Q hY hr h hk; exact wpIn_exit (hk (.exit i) σ G a w (Pres.refl σ) h hr)
  | label l => intro C outs Y path n σ k G a w Q hY hr h hk; exact wpIn_label (hk .normal σ G a w (Pres.refl σ) h hr)
  | goto l => intro C outs Y path n σ k G a w Q hY hr h hk; exact hr.elim
  | region rid ops draw =>
    intro C outs Y path n σ k G a w Q hY hr h hk
    simp only [run, nrmSt_eq] at hr
    cases draw with
    | false =>
      refine wpIn_region ?_
      rw [List.range_eq_range']
      have := goOps_sound hP hE hI hY (Q := Q) (ro := C.ro) (n := 0) ops.toList 0 (by simp) h hr fun σ' G' a' w' hp hR hk' => hk .normal σ' G' a' w' hp hR hk'
      simpa using this
    | true =>
      simp only at hr
      obtain ⟨l, hl⟩ : ∃ l, preFrz ops σ = Pi.frz l σ := ⟨_, rfl⟩
      rw [hl] at hr
      obtain ⟨G1, h1⟩ := h.frz l
      split at hr
      · rename_i hdr
        refine wpIn_region_any hP.mixed ?_
        obtain ⟨F, w1, hR, hc⟩ := h1.use
        have h2 := hc _ _ _ _ hR.drew rfl rfl
        refine goS_sound hP hE hD hI hY hdr _ 0 h2 hr (fun σ' G' a' w' hp hR hk' => hk .normal σ' G' a' w' ((Pres.frz l σ).trans hp) hR hk') _ _ ⟨by simp, fun m hm => by omega, fun m _ => ?_⟩ (by omega)
        simp only [Array.getD_eq_getD_getElem?, Array.getElem?_replicate]
        split <;> rfl
      · exact hr.elim
  | seq x y ihx ihy =>
    intro C outs Y path n σ k G a w Q hY hr h hk
    simp only [run] at hr
    split at hr
    · refine wpIn_seq (ihx C outs Y path n σ _ G a w _ hY hr h fun e σ' G' a' w' hp hR hk' => ?_)
      cases e with
      | normal => exact ihy C outs Y path n σ' k G' a' w' Q hY hk' hR fun e σ'' G'' a'' w'' hp' => hk e σ'' G'' a'' w'' (hp.trans hp')
      | exit i => exact hk (.exit i) σ' G' a' w' hp hR hk'
      | ret => exact hk .ret σ' G' a' w' hp hR hk'
    · rename_i L hL0
      split at hr
      · rename_i hok
        have hs : RX C S0 G outs { σ with dt := [], dob := [] } a w := h.congr rfl rfl (fun _ => rfl) rfl
        refine wpIn_seq (ihx C outs Y path n { σ with dt := [], dob := [] } _ G a w _ hY hr.out hs fun e σ1 G' a' w' hp hR hk' => ?_)
        cases e with
        | normal =>
          simp only at hk'
          obtain ⟨G4, h4⟩ := hR.frz (L.refs σ1)
          have hp4 := hp.trans (Pres.frz (L.refs σ1) σ1)
          revert hk' h4 hp4
          generalize Pi.frz (L.refs σ1) σ1 = σ'
          intro hk' h4 hp4
          split at hk'
          · rename_i hko
            split at hk'
            · rename_i v' hv'
              obtain ⟨b1, b2, b3, b4⟩ := keep_join hp4 hko
              obtain ⟨G5, h5⟩ := h4.ext (keepOK_lps hko) hok b1 b2 b3 b4 hv'
              exact ihy C outs Y path n _ _ G5 a' w' Q hY hk' h5 fun e σ2 G6 a6 w6 hp6 hR6 hk6 => hk e _ G6 a6 w6 hp6.after (hR6.congr rfl rfl (fun _ => rfl) rfl) hk6
            · exact hk'.elim
          · exact hk'.elim
        | exit i => exact hk (.exit i) _ G' a' w' (Pres.after0 hp) (hR.congr rfl rfl (fun _ => rfl) rfl) hk'
        | ret => exact hk .ret _ G' a' w' (Pres.after0 hp) (hR.congr rfl rfl (fun _ => rfl) rfl) hk'
      · exact hr.elim
  | cond c x y ihx ihy =>
    intro C outs Y path n σ k G a w Q hY hr h hk
    simp only [run] at hr
    split at hr
    · rename_i b hb
      obtain ⟨F, w1, hR0, _⟩ := h.use
      have hv := ev_rel hR0 c
      rw [hb] at hv
      have hv := hv.bool
      cases b with
      | true => exact wpIn_cond_true hv (ihx C outs Y path n σ k G a w Q hY hr h hk)
      | false => exact wpIn_cond_false hv (ihy C outs Y path n σ k G a w Q hY hr h hk)
    · exact hr.elim
  | block i c ih =>
    intro C outs Y path n σ k G a w Q hY hr h hk
    refine wpIn_block (ih C outs Y path i σ _ G a w _ hY hr h fun e σ' G' a' w' hp hR hk' => ?_)
    · cases e with
      | normal => exact hk .normal σ' G' a' w' hp hR hk'
      | ret => exact hk .ret σ' G' a' w' hp hR hk'
      | exit j =>
        simp only at hk'
        show Exit.inBlock i Q (.exit j) a' w'
        unfold Exit.inBlock
        split at hk'
        · rename_i e
          subst e
          simp only [if_true]
          exact hk .normal σ' G' a' w' hp hR hk'
        · rename_i e
          simp only [if_neg e]
          exact hk (.exit j) σ' G' a' w' hp hR hk'
  | scope c ih =>
    intro C outs Y path n σ k G a w Q hY hr h hk
    refine wpIn_scope_straight (ih C outs Y path n σ k G a w _ hY hr h fun e σ' G' a' w' hp hR hk' => ?_)
    · have := hk e σ' G' a' w' hp hR hk'
      cases e <;> exact this
  | loop c ih =>
    intro C outs Y path n σ0 k G a w Q hY hr h hk
    simp only [run] at hr
    split at hr
    · refine wpIn_loop_n (fun (q : Nat × St) a w => (∃ G, RX C S0 G outs q.2 a w) ∧ Pres σ0 q.2) _ (fun again q a w hR hs => ?_) A.unroll (1, σ0) a w hr ⟨⟨G, h⟩, Pres.refl σ0⟩
      obtain ⟨⟨G3, h3⟩, hp3⟩ := hR
      refine ih C outs Y _ n _ _ G3 a w _ hY hs h3 fun e σ2 G' a' w' hp hR' hk' => ?_
      · cases e with
        | normal => exact ⟨(q.1 + 1, σ2), hk', ⟨G', hR'⟩, hp3.trans hp⟩
        | exit i => exact hk (.exit i) σ2 G' a' w' (hp3.trans hp) hR' hk'
        | ret => exact hk .ret σ2 G' a' w' (hp3.trans hp) hR' hk'
    · rename_i L hL0
      obtain ⟨G1, h1⟩ := h.frz (L.fz ++ L.refs σ0)
      have hpf := Pres.frz (L.fz ++ L.refs σ0) σ0
      revert hr h1 hpf
      generalize Pi.frz (L.fz ++ L.refs σ0) σ0 = σ
      intro hr h1 hpf
      split at hr
      · rename_i hok
        split at hr
        · exact hr.elim
        · rename_i v0 hv0
          obtain ⟨m, hit⟩ := hr
          have hkO0 : ∀ o, (o, OTpl.keep) ∈ L.obs → ∃ ob, lk o σ.sto = some ob ∧ lk o σ.sto = some ob := fun o hm => by
            unfold LAnn.okAt at hok
            simp only [Bool.and_eq_true] at hok
            have := List.all_eq_true.1 hok.1.1.2 _ hm
            simp only at this
            cases hlk : lk o σ.sto with
            | none => rw [hlk] at this; simp at this
            | some ob => exact ⟨ob, rfl, rfl⟩
          obtain ⟨G2, h2⟩ := h1.ext rfl hok (fun t _ => .inl rfl) hkO0 rfl rfl hv0
          refine wpIn_loop_n (fun v a w => ∃ G, RX C S0 G outs (L.mk' σ v) a w) _ (fun again v a w hR hs => ?_) m v0 a w hit ⟨G2, h2⟩
          obtain ⟨G3, h3⟩ := hR
          refine ih C outs Y path n _ _ G3 a w _ hY hs h3 fun e σ1 G' a' w' hp hR' hk' => ?_
          · cases e with
            | normal =>
              simp only at hk'
              obtain ⟨G4, h4⟩ := hR'.frz (L.refs σ1)
              have hp4 := hp.trans (Pres.frz (L.refs σ1) σ1)
              revert hk' h4 hp4
              generalize Pi.frz (L.refs σ1) σ1 = σ'
              intro hk' h4 hp4
              split at hk'
              · rename_i hko
                split at hk'
                · rename_i v' hv'
                  obtain ⟨b1, b2, b3, b4⟩ := keep_round hp4 hok hko
                  obtain ⟨G5, h5⟩ := h4.ext (keepOK_lps hko) hok b1 b2 b3 b4 hv'
                  exact ⟨v', hk', G5, h5⟩
                · exact hk'.elim
              · exact hk'.elim
            | exit i => exact hk (.exit i) _ G' a' w' (hpf.trans hp.after) (hR'.congr rfl rfl (fun _ => rfl) rfl) hk'
            | ret => exact hk .ret _ G' a' w' (hpf.trans hp.after) (hR'.congr rfl rfl (fun _ => rfl) rfl) hk'
      · exact hr.elim
  | rangeFunc g ps asg body iha ihb =>
    intro C outs Y path n σ k G a w Q hY hr h hk
    simp only [run] at hr
    split at hr
    · rename_i f cap hf
      split at hr
      · rename_i hcond
        obtain ⟨hnoY, hlp⟩ := hcond
        obtain ⟨i, hi⟩ : ∃ i, i = loopId path asg := ⟨_, rfl⟩
        rw [← hi] at hr hnoY hlp
        refine wpIn_rangeFunc fun fn _ => ?_
        obtain ⟨l, mark, W, r, hent, hrf, hrp, hrt, hra, hrb, hX⟩ := h.enter (P := P) hnoY hlp fn ps asg body
        have hYi : outs.Y i = none := by
          cases e : outs.Y i with
          | none => rfl
          | some b =>
            obtain ⟨F, w1, _, hH⟩ := h
            obtain ⟨s, hs⟩ := hH.ydom i b e
            rw [hlp] at hs; cases hs
        obtain ⟨F0, w10, hR0, _⟩ := h.use
        have hv := ev_rel hR0 g
        rw [hf] at hv
        obtain ⟨caps, hv, hcaps⟩ := hv
        have houtl : σ.outs.length = outs.fr.length := hR0.outl.length
        obtain ⟨⟨fd, hfd, hbs⟩, hcall⟩ := hI { C with R := updN C.R i r } S0 { outs with Y := updN outs.Y i l } _ i f _ _ _ hr
        have hresolve : (resolve a.eval (rangeCall g l) 0).run P W = .ok { target := .fn (.func f) caps, args := #[.func (.yield l) #[] #[]] } W := by
          simp only [resolve, hv]
          simp [go_sem]
        have hn : (fd.name == "runtime.NumGoroutine") = false := by
          have h1 := Array.all_eq_true_iff_forall_mem.1 hP.quiet fd (Array.mem_of_getElem? hfd)
          cases hh : (fd.name == "runtime.NumGoroutine") with
          | false => rfl
          | true => simp [bne, hh] at h1
        have hbn : fd.body ≠ none := by cases hh : fd.body <;> simp_all
        refine ⟨l, mark, W, { target := .fn (.func f) caps, args := #[.func (.yield l) #[] #[]] }, W, f, ((Value.func (.yield l) #[] #[]) :: caps.toList).toArray, W, hent, hresolve, fun _ _ => trivial, ?_, fun e => (by cases e), ?_⟩
        · have hn' : fd.name ≠ "runtime.NumGoroutine" := by simpa using hn
          have e : ((Value.func (.yield l) #[] #[]) :: caps.toList).toArray = #[Value.func (.yield l) #[] #[]] ++ caps := by apply Array.ext'; simp
          rw [e]
          simp [invoke, callFunc, program, Sem.run, hfd, hn', hbn, Sem.bind, Sem.pure]
        · refine callsIn_fw.2 (hcall _ _ W _ _ ?_ hX ?_ ?_)
          · -- the rounds
            have hsub : Sub C outs { C with R := updN C.R i r } (({ outs with Y := updN outs.Y i l } : Outs).push a.tmps) :=
              ⟨fun j b hb => by
                have hji : j ≠ i := fun e => by subst e; rw [hYi] at hb; cases hb
                exact ⟨by show updN outs.Y i l j = some b; simp only [updN, if_neg hji]; exact hb, by show updN C.R i r j = C.R j; simp only [updN, if_neg hji]⟩, fun d t hd => frameM_push (outs := { outs with Y := updN outs.Y i l }) hd⟩
            intro j hd hyj
            simp only [ylo] at hyj
            split at hyj
            · rename_i e
              subst e
              simp only [Option.some.injEq] at hyj
              subst hyj
              refine ⟨_, _, l, r, Sub.refl _ _, by show updN outs.Y i l i = some l; simp [updN], by show updN C.R i r i = some r; simp [updN], ?_⟩
              intro C' outs' site avs σg k' hS2 hh G' ag wg args R' hX' hargs hk'
              try simp only at hh
              split at hh
              · exact hh.elim
              · rename_i tm0 htm0
                split at hh
                · rename_i hc2
                  obtain ⟨hready, hlen⟩ := hc2
                  obtain ⟨hYl, hRl⟩ := hS2.Y i l (by show updN outs.Y i l i = some l; simp [updN])
                  have hRl : C'.R i = some r := hRl.trans (by show updN C.R i r i = some r; simp [updN])
                  have hfr := hS2.fr outs.fr.length a.tmps (frameM_new { outs with Y := updN outs.Y i l } a.tmps)
                  have hargl : args.length = ps.size := by rw [← hlen]; exact hargs.length.symm
                  refine ⟨by rw [hrp]; exact hargl, ?_⟩
                  rw [hrp, hrt, hra, hrb]
                  -- the round's frame
                  obtain ⟨Fg, hRg, _⟩ := hX'.now
                  have hfrel : tm0.length ≤ a.tmps.size ∧ ∀ t, VR G' wg (lks σg) (get tm0 t) (a.tmps.getD t Go.undef) := by
                    have hll : σg.outs.length = outs'.fr.length := hRg.outl.length
                    unfold frameAt at htm0
                    unfold frameM at hfr
                    split at htm0
                    · split at hfr
                      · rw [hll, houtl] at htm0
                        exact frame_rel _ hRg.outl htm0 hfr
                      · cases hfr
                    · cases htm0
                  have hsr := setPs_rel (ts := ps.toList) hargs hfrel.1 hfrel.2
                  have hfold : (ps.toList.zip args).foldl (fun tmps (q : Tmp × Value) => tmps.setIfInBounds q.1 q.2) a.tmps = (ps.zip args.toArray).foldl (fun tmps (t, a) => tmps.setIfInBounds t a) a.tmps := by
                    rw [← Array.foldl_toList]
                    congr 1
                    simp
                  rw [hfold] at hsr
                  obtain ⟨Ds, hda, hdm, hnd, hro', hXr⟩ := hX'.push (tm' := setPs ps.toList avs tm0) (a' := { tmps := (ps.zip args.toArray).foldl (fun tmps (t, a) => tmps.setIfInBounds t a) a.tmps, defers := [] }) (dt' := []) (dob' := σg.dob) (ro := some l) rfl hsr.1 hsr.2
                    (fun l' e => by simp only [Option.some.injEq] at e; subst e; exact ⟨i, .ready, hready, hYl⟩)
                  have hY2 : YsOK P S0 (C'.inner Ds (some l)) (outs'.push ag.tmps) Y := (hY.sub (hsub.trans hS2)).sub (Sub.push (C := C') (C' := C'.inner Ds (some l)) (fun _ => rfl) _)
                  refine roundIn_of_wpIn trivial ?_
                  refine wpIn_mono (Q := fun e a1 w1 => e = .normal ∧ ∃ w2, (Instr.beginRound l).run P w1 = .ok () w2 ∧ body.wpIn (Fence.wide.inRound l) 0 P (roundPost P l R') a1 w2) ?_ (fun e a1 w1 hq => by
                    obtain ⟨rfl, hq⟩ := hq
                    exact hq)
                  refine iha (C'.inner Ds (some l)) (outs'.push ag.tmps) Y site n _ _ G' _ wg _ hY2 hh hXr fun e σ1 G1 a1 w1 hp1 hX1 hk1 => ?_
                  cases e with
                  | exit _ => exact hk1.elim
                  | ret => exact hk1.elim
                  | normal =>
                    simp only at hk1
                    split at hk1
                    · rename_i hrd1
                      have hY1 : (outs'.push ag.tmps).Y i = some l := hYl
                      have hR1 : (C'.inner Ds (some l)).R i = some r := hRl
                      have hrec1 := hX1.rec hrd1 hY1 hR1
                      have hX2 := hX1.setLp hrd1 hY1 hR1 .busy
                      refine ⟨rfl, _, run_beginRound hrec1 rfl, ?_⟩
                      refine ihb (C'.inner Ds (some l)) (outs'.push ag.tmps) Y site n _ _ G1 a1 _ _ hY2 hk1 hX2 fun e σ2 G2 a2 w2 hp2 hX3 hk2 => ?_
                      split at hk2
                      · rename_i hbusy
                        have hrec2 := hX3.rec hbusy hY1 hR1
                        have hX4 := hX3.setLp hbusy hY1 hR1 e.toSt
                        have hpo : σ2.outs = σg.tm :: σg.outs := hp2.outs.trans hp1.outs
                        have hX5 := RX.pop (a'' := a2) (dt' := σg.dt) (dob' := σ2.dob) hda hdm hnd hro' hX4 (tm0 := σg.tm) (outs0 := σg.outs) hpo
                        have hpres : Pres σg { tm := σg.tm, outs := σg.outs, sto := σ2.sto, dt := σg.dt, dob := σ2.dob, lps := Pi.setLp i e.toSt σ2.lps } := by
                          refine ⟨fun t => .inr (.inl rfl), fun t ht => ht, fun o => ?_, fun o ho => hp2.dob o (hp1.dob o ho), rfl, rfl⟩
                          rcases hp2.ob o with h1 | h1
                          · exact .inl h1
                          · rcases hp1.ob o with h2 | h2
                            · exact .inl (hp2.dob o h2)
                            · exact .inr fun ob hob => h2 ob (h1 ob hob)
                        have hfin := hk' _ (.bool e.isNormal) _ _ _ hk2 hpres hX5 rfl
                        cases e with
                        | normal => exact ⟨_, _, run_endRound none hrec2, hfin⟩
                        | exit j => exact ⟨_, _, run_endRound (some (.exit j)) hrec2, hfin⟩
                        | ret => exact ⟨_, _, run_endRound (some .ret) hrec2, hfin⟩
                      · exact hk2.elim
                    · exact hk1.elim
                · exact hh.elim
            · obtain ⟨C0, outs0, b, r0, k1, k2⟩ := hY j hd hyj
              exact ⟨C0, outs0, b, r0, k1.trans hsub, k2⟩
          · -- the arguments
            exact ⟨⟨trivial, fun b hb => by
              have hb : updN outs.Y i l i = some b := hb
              simp only [updN, if_true, Option.some.injEq] at hb
              subst hb; rfl⟩, caps_vr hcaps⟩
          · -- behind it
            intro av v σ' G' w' hkk hp hX2 hV
            try simp only at hkk
            split at hkk
            · rename_i i' st rest hls
              split at hkk
              · rename_i hc2
                obtain ⟨rfl, rfl⟩ := hc2
                have hst : st ≠ .busy := fun e => by subst e; exact hkk.elim
                obtain ⟨hend, hX3⟩ := hX2.leave (P := P) hls hst hlp hYi
                refine ⟨_, _, hend, ?_⟩
                have hp' : Pres σ { σ' with lps := σ.lps } := ⟨hp.tm, hp.dt, hp.ob, hp.dob, hp.outs, hp.len⟩
                cases st with
                | ready => exact hk .normal _ _ _ _ hp' hX3 hkk
                | busy => exact (hst rfl).elim
                | done e => exact exit_wp (hk e _ _ _ _ hp' hX3 hkk)
              · exact hkk.elim
            · exact hkk.elim
      · exact hr.elim
    · exact hr.elim
  | _ => intro C outs Y path n σ k G a w Q hY hr h hk; exact hr.elim

end
end Go.Pi
end

section
namespace Go.Pi
open Go.RowKit
set_option linter.unusedSimpArgs false
set_option linter.unusedVariables false

section
variable {P : Program} {B : Nat → Prop} {w0 : World} {S0 : Cells} {G G' : Gh} {outs : Outs} {σ : St} {a : Act} {w w' : World} {o : Oper} {look : Look}
variable {K : Act → World → Prop} {Q : Exit → Act → World → Prop} {E : Env} {inl : Inl}

theorem CR.noTup {c : AV} {v : Value} (h : CR G w look c v) : c.noTup = true := by
  cases c <;> first | rfl | exact h.1.elim

theorem wrapAgg_noTup {ag : Bool} {cs : List AV} {vs : List Value} (h : All2 (CR G w look) cs vs) : (wrapAgg ag cs).noTup = true := by
  cases ag with
  | true => rfl
  | false => cases cs with
    | nil => rfl
    | cons c r => cases vs with
      | nil => exact h.elim
      | cons v r' => exact h.1.noTup

def resM (tmps : Array Value) : ResultVar → Sem Value
  | .tmp t => pure (tmps.getD t undef)
  | .cell a t => do loadVar t (← asAddr (tmps.getD a undef))

theorem results_rel (h : Rel B w0 S0 G outs σ a w) : ∀ {rs : List ResultVar} {vs : Bool × List AV}, results P σ rs = some vs → vs.1 = true →
    ∃ vals, (rs.mapM (resM a.tmps)).run P w = .ok vals w ∧ All2 (VR G w (lks σ)) vs.2 vals ∧ ∀ v ∈ vs.2, v.noTup = true
  | [], vs, he, _ => by simp [results] at he; subst he; exact ⟨[], rfl, trivial, fun v hv => by simp at hv⟩
  | .tmp t :: r, vs, he, hc => by
    simp only [results] at he
    split at he
    · rename_i l hnt hl
      simp at he; subst he
      obtain ⟨vals, h1, h2, h3⟩ := results_rel h hl hc
      refine ⟨a.tmps.getD t undef :: vals, ?_, ⟨h.tm t, h2⟩, fun v hv => ?_⟩
      · simp only [List.mapM_cons, resM, Sem.run_bind, Sem.run_pure, Result.andThen_ok, h1]
      · rcases List.mem_cons.1 hv with rfl | hv
        · exact hnt
        · exact h3 v hv
    · simp at he
  | .cell x t :: r, vs, he, hc => by
    simp only [results] at he
    split at he
    · rename_i q l hq hl
      split at he
      · rename_i hok
        simp at he; subst he
        simp only [Bool.and_eq_true] at hc
        obtain ⟨vals, h1, h2, h3⟩ := results_rel h hl hc.2
        obtain ⟨c, cs⟩ := q
        obtain ⟨b, off, us, hv, hn, hcs, hC⟩ := read_rel h.obj (h.tm x) hq hc.1
        obtain ⟨k1, k2, k3⟩ := okT_parts hok
        have hload := loadVar_run (P := P) k1 hn k2 hC
        refine ⟨_ :: vals, ?_, ⟨wrapAgg_rel (ag := isAggT P t) ?_ hcs, h2⟩, fun v hv' => ?_⟩
        · simp only [List.mapM_cons, resM, hv, asAddr, Sem.run_bind, Sem.run_pure, Result.andThen_ok, hload, h1]
        · cases hag : isAggT P t with
          | true => exact .inr rfl
          | false => exact .inl (by rw [hcs.length, hn]; exact k2 hag)
        · rcases List.mem_cons.1 hv' with rfl | hv'
          · exact wrapAgg_noTup hcs
          · exact h3 v hv'
      · simp at he
    · simp at he

theorem results_run {fn : Func} {tmps : Array Value} {vals : List Value} (h : (fn.results.toList.mapM (resM tmps)).run P w = .ok vals w) : (Go.results fn tmps).run P w = .ok (packV vals) w := by
  have hfun : ∀ f : ResultVar → Sem Value, (∀ r, f r = resM tmps r) → (List.toArray <$> List.mapM f fn.results.toList).run P w = .ok vals.toArray w := fun f hf => by
    rw [funext hf]; simp [h]
  unfold Go.results
  rw [Array.mapM_eq_mapM_toList, Sem.run_bind, hfun _ (fun r => by cases r <;> rfl)]
  simp only [Result.andThen_ok, Sem.run_pure]
  congr 1
  cases vals with
  | nil => rfl
  | cons v r => cases r with
    | nil => rfl
    | cons _ _ => rfl

theorem pack_rel {avs : List AV} {vals : List Value} (h : All2 (VR G w look) avs vals) (hn : ∀ v ∈ avs, v.noTup = true) : VR G w look (pack avs) (packV vals) := by
  have tup : ∀ {avs : List AV} {vals : List Value}, All2 (VR G w look) avs vals → (∀ v ∈ avs, v.noTup = true) → VR G w look (.tup avs) (.tuple vals.toArray) := fun h hn =>
    ⟨_, rfl, vr1_of h fun v hv q e => by have := hn v hv; rw [e] at this; simp [AV.noTup] at this⟩
  cases avs with
  | nil => cases vals with
    | nil => exact tup trivial (fun v hv => by simp at hv)
    | cons _ _ => exact h.elim
  | cons c r => cases vals with
    | nil => exact h.elim
    | cons u us => cases r with
      | nil => cases us with
        | nil => exact h.1
        | cons _ _ => exact h.2.elim
      | cons c' r' => cases us with
        | nil => exact h.2.elim
        | cons u' us' => exact tup h hn

/-- The temporaries with which a function's code starts. -/
theorem start_vr {avs : List AV} {args : List Value} (hv : All2 (VR G w look) avs args) (n : Nat) : (Tm.args avs n).length ≤ (args.toArray ++ Array.replicate (n - args.toArray.size) undef).size ∧
    ∀ t, VR G w look (get (Tm.args avs n) t) ((args.toArray ++ Array.replicate (n - args.toArray.size) undef).getD t Go.undef) := by
  have hl := hv.length
  refine ⟨by rw [args_len]; simp; omega, fun t => ?_⟩
  rw [get_args]
  by_cases ht : t < avs.length
  · obtain ⟨v, h1, h2⟩ := hv.get t _ (getD_of_lt ht .undef)
    have e2 : (args.toArray ++ Array.replicate (n - args.toArray.size) undef).getD t Go.undef = v := by
      have : t < args.length := by omega
      simp only [Array.getD_eq_getD_getElem?, Array.getElem?_append]
      simp [this]
      rw [List.getElem?_eq_getElem this] at h1
      simpa using h1
    rw [e2]; exact h2
  · have e1 : avs.getD t .undef = AV.undef := by
      rw [List.getD_eq_getElem?_getD, List.getElem?_eq_none (Nat.le_of_not_lt ht)]; rfl
    rw [e1]
    simp only [VR, VR1, VR0]

theorem stripAt_get (own : List Nat) (site : Nat) (args : List AV) (tm : Tm) : (stripAt own site args tm).length = tm.length ∧ ∀ t, get (stripAt own site args tm) t = get tm t ∨ get (stripAt own site args tm) t = .undef := by
  unfold stripAt
  split
  · exact ⟨rfl, fun t => .inl rfl⟩
  · refine ⟨rfl, fun t => ?_⟩
    rw [get_map rfl]
    cases get tm t with
    | ref o v =>
      unfold strip
      dsimp only
      split
      · exact .inr rfl
      · exact .inl rfl
    | _ => exact .inl rfl

theorem RX.strip {C : Ctx} (h : RX C S0 G outs σ a w) (own : List Nat) (site : Nat) (args : List AV) : RX C S0 G outs { σ with tm := stripAt own site args σ.tm } a w := by
  obtain ⟨F, w1, hR, hH⟩ := h
  obtain ⟨h1, h2⟩ := stripAt_get own site args σ.tm
  refine ⟨F, w1, ⟨hR.below, hR.bsz, hR.s0, hR.snew, hR.slt, by simpa [h1] using hR.tml, fun t => ?_, hR.outl, hR.obj, hR.inj, hR.yeq⟩, hH⟩
  rcases h2 t with e | e
  · show VR G w _ (get (stripAt own site args σ.tm) t) _
    rw [e]; exact hR.tm t
  · show VR G w _ (get (stripAt own site args σ.tm) t) _
    rw [e]; simp only [VR, VR1, VR0]

theorem inlN_ok (hP : ProgOK P) (hE : EnvOK P E) (hD : DrawOK P E ∧ DrawOne P ∧ DrawEnd P) (A : Anns) : ∀ d, InlOK P (inlN P E A d)
  | 0 => fun C S0 outs Y site f avs σ k h => h.elim
  | d + 1 => fun C S0 outs Y site f avs σ k h => by
    simp only [inlN] at h
    split at h
    · exact h.elim
    · rename_i fn hf
      split at h
      · exact h.elim
      · rename_i c hb
        refine ⟨⟨fn, hf, by simp [hb]⟩, fun G a w args R hY hX hv hk => ?_⟩
        have hsg := stripAt_get A.own site avs σ.tm
        replace hX := hX.strip A.own site avs
        have hst := start_vr hv fn.ntmps
        obtain ⟨Ds, hda, hdm, hnd, hro, hX1⟩ := hX.push (a' := { tmps := args.toArray ++ Array.replicate (fn.ntmps - args.toArray.size) undef, defers := [] }) (dt' := []) (dob' := σ.dob) (ro := none) rfl hst.1 hst.2 (fun l e => by cases e)
        refine callsIn_wide.1 (callsIn_of_wp_marks (n := 0) hf hb trivial ?_)
        refine run_sound hP hE hD A (inlN_ok hP hE hD A d) c (C.inner Ds none) (outs.push a.tmps) Y site 0 _ _ G _ w _ (hY.sub ⟨fun j b h => ⟨h, rfl⟩, fun d t h => h⟩) h hX1 fun e σ' G' a' w' hp hX' hk' => ?_
        have key : (match results P σ' fn.results.toList with
          | none => False
          | some vs => br vs.1 (k (pack vs.2) { tm := stripAt A.own site avs σ.tm, outs := σ.outs, sto := σ'.sto, dt := σ.dt, dob := σ'.dob, lps := σ'.lps }) False) → LeavesInM Fence.wide 0 P fn a'.tmps R a'.defers .returning w' := by
          intro hh
          split at hh
          · exact hh.elim
          · rename_i vs hvs
            obtain ⟨hc, hh⟩ := br_no hh
            obtain ⟨F, w1, hR', hH'⟩ := hX'
            obtain ⟨Es, he, _⟩ := hH'.dfr
            rw [he]
            refine leaves_marks Es ⟨F, w1, hR', hH'⟩ he fun w2 hX2 => ?_
            obtain ⟨F2, w3, hR2, hc2⟩ := hX2.use
            obtain ⟨vals, h1, h2, h3⟩ := results_rel hR2 hvs hc
            have hX3 := RX.pop (dt' := σ.dt) (dob' := σ'.dob) hda hdm hnd hro hX2 hp.outs
            exact ⟨packV vals, results_run h1, hk _ _ _ G' w2 hh ⟨fun t => .inr (hsg.2 t), fun t ht => ht, hp.ob, fun o ho => hp.dob o ho, rfl, hsg.1⟩ hX3 (pack_rel h2 h3)⟩
        cases e with
        | normal => exact key hk'
        | ret => exact key hk'
        | exit i => exact hk'.elim

/-! ### functions -/
theorem first_rx {S : Cells} {doms : List Ty} {x : (tyS doms).D} {args : List Value} (hS : ∀ b o, S b o → b < w.heap.size) (ht : TysV S w doms x args) (n : Nat) :
    RX { B := w.heap.size, w0 := w } S { S := S, M := fun _ => none } {} { tm := Tm.args (encs doms x) n, outs := [], sto := [], dt := [], dob := [] }
      { tmps := args.toArray ++ Array.replicate (n - args.toArray.size) undef, defers := [] } w := by
  have hv : All2 (VR { S := S, M := fun _ => none } w (fun _ => none)) (encs doms x) args := encs_rel ht
  have hdl : (encs doms x).length = doms.length := by
    clear ht hv
    revert x
    induction doms with
    | nil => intro x; rfl
    | cons t r ih => cases r with
      | nil => intro x; rfl
      | cons t' r' => intro x; simp [encs]; simpa using ih
  have h1 := start_vr hv n
  refine ⟨(· < w.heap.size), w, ⟨Bel.refl _ _, fun _ h => h, fun _ _ h => h, fun _ _ h => .inl h, hS, h1.1, h1.2, trivial, fun o ob h => by simp [lk] at h, fun o o' ob ob' b c c' h => by simp [lk] at h, rfl⟩, ?_⟩
  exact ⟨fun _ h => h, Bel.refl _ _, fun _ h => h, hS, ⟨[], rfl, List.nodup_nil, fun D hm => by simp at hm⟩, fun D hm => (by simp at hm), fun l hm => (by simp at hm), fun l e => (by cases e), fun i s h => (by simp [lpAt] at h), fun i b h => (by cases h), fun i j b h => (by cases h)⟩

theorem ysNil {C : Ctx} : YsOK P S0 C {} [] := fun i h hy => by simp [ylo] at hy

/-- What lay there when the function began lies as it lay. -/
theorem RX.base {B : Nat} {R : Nat → Option Loop} {dm rds : List Nat} {ro : Option Nat} {S : Cells} {w2 : World} (h : RX { B := B, w0 := w, R := R, dm := dm, rds := rds, ro := ro } S G outs σ a w2) : Bel (· < B) w w2 ∧ ∃ F w1, Rel F w1 S G outs σ a w2 ∧ ∀ b, b < B → F b := by
  obtain ⟨F, w1, hR, hH⟩ := h
  exact ⟨hH.below.trans (hR.below.mono (fun k (hk : k < B) => hH.low k hk)), F, w1, hR, hH.low⟩

theorem entry_ok (hP : ProgOK P) (hE : EnvOK P E) (hD : DrawOK P E ∧ DrawOne P ∧ DrawEnd P) {A : Anns} {d f : Nat} {fn : Func} {en : Entry} (hf : P.funcs[f]? = some fn) (hbs : fn.body.isSome = true) (huq : en.uq = false) (hex : en.ex = false) (hcl : en.clo = false) (htot : en.total = true → ∀ x, en.pre x)
    (h : ∀ x, en.pre x → runF P E A d fn en.doms en.cods x fun y => y = en.fn x) (hip : en.ip = none := by rfl) : EntryOK P f en := by
  cases hb : fn.body with
  | none => simp [hb] at hbs
  | some c =>
    refine ⟨⟨fn, hf, by simp [hb]⟩, htot, (fun q e => by rw [hip] at e; cases e), fun S w args x hS ht hpre _ => ?_⟩
    simp only [argsOf, hcl]
    have hr := h x hpre
    unfold runF at hr
    rw [hb] at hr
    simp only at hr
    refine callsIn_wide.1 (callsIn_of_wp_marks (n := 0) hf hb trivial ?_)
    refine run_sound hP hE hD A (inlN_ok hP hE hD A d) c { B := w.heap.size, w0 := w } {} [] 1 0 _ _ _ _ w _ ysNil hr (first_rx hS ht fn.ntmps) fun e σ' G' a' w' hp hX' hk' => ?_
    have key : finF P fn en.cods σ' (fun y => y = en.fn x) → LeavesInM Fence.wide 0 P fn a'.tmps (fun
      | .returned v, w' => Ret S w en.cods (en.fn x) v w' ∧ (en.uq = true → RetU S w en.cods (en.fn x) v w') ∧ (en.ex = true → ∃ a n, v = .slice a n n)
      | .panicked _, _ => False
      | .outgrown, _ => False) a'.defers .returning w' := by
      intro hh
      unfold finF at hh
      split at hh
      · exact hh.elim
      · rename_i vs hvs
        split at hh
        · rename_i y hy
          obtain ⟨hc, rfl⟩ := br_no hh
          obtain ⟨F, w1, hR', hH'⟩ := hX'
          obtain ⟨Es, he, _⟩ := hH'.dfr
          rw [he]
          refine leaves_marks Es ⟨F, w1, hR', hH'⟩ he fun w2 hX2 => ?_
          obtain ⟨hbel, F2, w3, hR2, hlow⟩ := hX2.base
          obtain ⟨vals, h1, h2, h3⟩ := results_rel hR2 hvs hc
          obtain ⟨G2, hR3, hx⟩ := Rel.frzX (vs.2.flatMap refsOf) hR2
          have h4 : All2 (VR G2 w2 (lks (Pi.frz (vs.2.flatMap refsOf) σ'))) vs.2 vals := h2.imp fun _ _ hv => VR.ext hx hv
          exact ⟨packV vals, results_run h1, ⟨hbel, G2.S, hR3.s0, fun b o hs => (hR3.snew b o hs).imp id fun hn => Nat.le_of_not_lt fun hlt => hn (hlow b hlt), hR3.slt, vals, decs_rel hR3.obj h4 hy, rfl⟩, (fun e => by rw [huq] at e; cases e), fun e => by rw [hex] at e; cases e⟩
        · exact hh.elim
    cases e with
    | normal => exact key hk'
    | ret => exact key hk'
    | exit i => exact hk'.elim


theorem clo_vr {G : Gh} {w : World} : ∀ {doms : List Ty} {x : (tyS doms).D} {args : List Value}, CloOk doms x → All2 (VR G w (fun _ => none)) (encs doms x) args → All2 (VR G w (fun _ => none)) (cloA (encs doms x)) (cloV args) ∧ (cloA (encs doms x)).length = (encs doms x).length
  | [], _, _, h, _ => h.elim
  | [t], x, args, h, hv => by
    obtain ⟨ag, ts⟩ := t
    cases ag with
    | true => exact h.elim
    | false =>
      cases ts with
      | sl s =>
        have h : 0 < List.length (x : List s.D) := h
        have e1 : encs [(false, Sch.sl s)] x = [.sl false s x] := rfl
        rw [e1] at hv ⊢
        cases args with
        | nil => exact hv.elim
        | cons v r =>
          cases r with
          | cons _ _ => exact hv.2.elim
          | nil =>
            obtain ⟨⟨hd, _⟩, _⟩ := hv
            obtain ⟨a, cap, e2, _, _, he⟩ := hd
            simp only [List.cons.injEq, and_true] at e2
            subst e2
            obtain ⟨b, off, rfl, hel⟩ := he h
            exact ⟨⟨⟨h, b, off, hel, by simp [cloV1]⟩, trivial⟩, rfl⟩
      | _ => exact h.elim
  | t :: t' :: r, x, args, h, hv => by
    cases args with
    | nil => exact hv.elim
    | cons v vs =>
      have e1 : encs (t :: t' :: r) x = encTy t x.1 :: encs (t' :: r) x.2 := rfl
      rw [e1] at hv ⊢
      obtain ⟨i1, i2⟩ := clo_vr (doms := t' :: r) (x := x.2) h hv.2
      cases he : encs (t' :: r) x.2 with
      | nil =>
        exfalso
        cases r with
        | nil => simp [encs] at he
        | cons _ _ => simp [encs] at he
      | cons a b =>
        rw [he] at i1 i2 hv
        cases vs with
        | nil => exact hv.2.elim
        | cons v' vs' => exact ⟨⟨hv.1, i1⟩, by simp only [cloA, List.length_cons] at i2 ⊢; omega⟩

theorem first_rxC {S : Cells} {doms : List Ty} {x : (tyS doms).D} {args : List Value} (hS : ∀ b o, S b o → b < w.heap.size) (ht : TysV S w doms x args) (hco : CloOk doms x) (n : Nat) :
    RX { B := w.heap.size, w0 := w } S { S := S, M := fun _ => none } {} { tm := Tm.args (cloA (encs doms x)) n, outs := [], sto := [], dt := [], dob := [] }
      { tmps := (cloV args).toArray ++ Array.replicate (n - (cloV args).toArray.size) undef, defers := [] } w := by
  have hv0 : All2 (VR { S := S, M := fun _ => none } w (fun _ => none)) (encs doms x) args := encs_rel ht
  obtain ⟨hv, hlen⟩ := clo_vr hco hv0
  have hdl : (encs doms x).length = doms.length := by
    clear ht hv hv0 hco hlen
    revert x
    induction doms with
    | nil => intro x; rfl
    | cons t r ih => cases r with
      | nil => intro x; rfl
      | cons t' r' => intro x; simp [encs]; simpa using ih
  have h1 := start_vr hv n
  refine ⟨(· < w.heap.size), w, ⟨Bel.refl _ _, fun _ h => h, fun _ _ h => h, fun _ _ h => .inl h, hS, h1.1, h1.2, trivial, fun o ob h => by simp [lk] at h, fun o o' ob ob' b c c' h => by simp [lk] at h, rfl⟩, ?_⟩
  exact ⟨fun _ h => h, Bel.refl _ _, fun _ h => h, hS, ⟨[], rfl, List.nodup_nil, fun D hm => by simp at hm⟩, fun D hm => (by simp at hm), fun l hm => (by simp at hm), fun l e => (by cases e), fun i s h => (by simp [lpAt] at h), fun i b h => (by cases h), fun i j b h => (by cases h)⟩

theorem entry_okC (hP : ProgOK P) (hE : EnvOK P E) (hD : DrawOK P E ∧ DrawOne P ∧ DrawEnd P) {A : Anns} {d f : Nat} {fn : Func} {en : Entry} (hf : P.funcs[f]? = some fn) (hbs : fn.body.isSome = true) (huq : en.uq = false) (hex : en.ex = false) (hcl : en.clo = true) (htot : en.total = true → ∀ x, en.pre x)
    (h : ∀ x, en.pre x → runC P E A d fn en.doms en.cods x fun y => y = en.fn x) (hip : en.ip = none := by rfl) : EntryOK P f en := by
  cases hb : fn.body with
  | none => simp [hb] at hbs
  | some c =>
    refine ⟨⟨fn, hf, by simp [hb]⟩, htot, (fun q e => by rw [hip] at e; cases e), fun S w args x hS ht hpre hco => ?_⟩
    simp only [argsOf, hcl]
    have hr := h x hpre
    unfold runC at hr
    rw [hb] at hr
    simp only at hr
    refine callsIn_wide.1 (callsIn_of_wp_marks (n := 0) hf hb trivial ?_)
    refine run_sound hP hE hD A (inlN_ok hP hE hD A d) c { B := w.heap.size, w0 := w } {} [] 1 0 _ _ _ _ w _ ysNil hr (first_rxC hS ht (hco hcl) fn.ntmps) fun e σ' G' a' w' hp hX' hk' => ?_
    have key : finF P fn en.cods σ' (fun y => y = en.fn x) → LeavesInM Fence.wide 0 P fn a'.tmps (fun
      | .returned v, w' => Ret S w en.cods (en.fn x) v w' ∧ (en.uq = true → RetU S w en.cods (en.fn x) v w') ∧ (en.ex = true → ∃ a n, v = .slice a n n)
      | .panicked _, _ => False
      | .outgrown, _ => False) a'.defers .returning w' := by
      intro hh
      unfold finF at hh
      split at hh
      · exact hh.elim
      · rename_i vs hvs
        split at hh
        · rename_i y hy
          obtain ⟨hc, rfl⟩ := br_no hh
          obtain ⟨F, w1, hR', hH'⟩ := hX'
          obtain ⟨Es, he, _⟩ := hH'.dfr
          rw [he]
          refine leaves_marks Es ⟨F, w1, hR', hH'⟩ he fun w2 hX2 => ?_
          obtain ⟨hbel, F2, w3, hR2, hlow⟩ := hX2.base
          obtain ⟨vals, h1, h2, h3⟩ := results_rel hR2 hvs hc
          obtain ⟨G2, hR3, hx⟩ := Rel.frzX (vs.2.flatMap refsOf) hR2
          have h4 : All2 (VR G2 w2 (lks (Pi.frz (vs.2.flatMap refsOf) σ'))) vs.2 vals := h2.imp fun _ _ hv => VR.ext hx hv
          exact ⟨packV vals, results_run h1, ⟨hbel, G2.S, hR3.s0, fun b o hs => (hR3.snew b o hs).imp id fun hn => Nat.le_of_not_lt fun hlt => hn (hlow b hlt), hR3.slt, vals, decs_rel hR3.obj h4 hy, rfl⟩, (fun e => by rw [huq] at e; cases e), fun e => by rw [hex] at e; cases e⟩
        · exact hh.elim
    cases e with
    | normal => exact key hk'
    | ret => exact key hk'
    | exit i => exact hk'.elim

end
end Go.Pi
end

section
namespace Go.Pi
open Go.RowKit
set_option linter.unusedSimpArgs false
set_option linter.unusedVariables false

section
variable {P : Program} {E : Env} {own : List Nat} {site : Nat} {o : Oper} {look look' : Look} {ρ ρ' : Operand → AV}

def Le (a b : AV) : Prop := a = .undef ∨ a = b
theorem Le.rfl {a : AV} : Le a a := .inr _root_.rfl

theorem dec_mono : ∀ {s : Sch} {cs cs' : List AV} {x : s.D} {r : List AV}, All2 Le cs cs' → s.dec cs = some (x, r) → ∃ r', s.dec cs' = some (x, r') ∧ All2 Le r r' := by
  intro s
  induction s with
  | unit => intro cs cs' x r h e; simp [Sch.dec] at e; exact ⟨cs', by simp [Sch.dec], e ▸ h⟩
  | pair p q ihp ihq =>
    intro cs cs' x r h e
    simp only [Sch.dec] at e
    split at e
    · simp at e
    · rename_i x1 r1 e1
      split at e
      · simp at e
      · rename_i x2 r2 e2
        simp at e
        obtain ⟨rfl, rfl⟩ := e
        obtain ⟨r1', h1, h2⟩ := ihp h e1
        obtain ⟨r2', h3, h4⟩ := ihq h2 e2
        exact ⟨r2', by simp [Sch.dec, h1, h3], h4⟩
  | _ =>
    intro cs cs' x r h e
    cases cs with
    | nil => simp [Sch.dec] at e
    | cons c cs => cases cs' with
      | nil => exact h.elim
      | cons c' cs' =>
        have hc : c = c' := by
          rcases h.1 with h1 | h1
          · subst h1; simp [Sch.dec] at e
          · exact h1
        subst hc
        cases c <;> simp [Sch.dec] at e <;> first
          | (obtain ⟨h1, h2, h3⟩ := e; subst h1; subst h2; subst h3; exact ⟨cs', by simp [Sch.dec], h.2⟩)
          | (obtain ⟨h1, h2⟩ := e; subst h1; subst h2; exact ⟨cs', by simp [Sch.dec], h.2⟩)
          | (obtain ⟨⟨h0, h1⟩, h2⟩ := e; subst h0; subst h2; exact ⟨cs', by simp [Sch.dec]; exact h1, h.2⟩)

theorem full_mono {s : Sch} {cs cs' : List AV} {x : s.D} (h : All2 Le cs cs') (e : full s cs = some x) : full s cs' = some x := by
  unfold full at e
  split at e
  · rename_i y ey
    simp at e; subst e
    obtain ⟨r', h1, h2⟩ := dec_mono h ey
    cases r' with
    | nil => simp [full, h1]
    | cons _ _ => exact h2.elim
  · simp at e

theorem decN_mono {s : Sch} : ∀ {n : Nat} {cs cs' : List AV} {xs : List s.D}, All2 Le cs cs' → decN s n cs = some xs → decN s n cs' = some xs
  | 0, cs, cs', xs, h, e => by cases cs with
    | nil => cases cs' with
      | nil => exact e
      | cons _ _ => exact h.elim
    | cons _ _ => simp [decN] at e
  | n + 1, cs, cs', xs, h, e => by
    simp only [decN] at e
    split at e
    · rename_i x r e1
      split at e
      · rename_i ys e2
        simp at e; subst e
        obtain ⟨r', h1, h2⟩ := dec_mono h e1
        simp [decN, h1, decN_mono h2 e2]
      · simp at e
    · simp at e

theorem pur_le (h : ∀ p ob, look p = some ob → look' p = some ob) (v : AV) : Le (pur look v) (pur look' v) := by
  unfold pur
  split
  · rename_i o ver
    split
    · rename_i ver' s xs ho
      rw [h o _ ho]
      exact .rfl
    · exact .inl rfl
  · exact .rfl

theorem purs_le (h : ∀ p ob, look p = some ob → look' p = some ob) : ∀ cs : List AV, All2 Le (cs.map (pur look)) (cs.map (pur look'))
  | [] => trivial
  | c :: r => ⟨pur_le h c, purs_le h r⟩

theorem decTy_mono (h : ∀ p ob, look p = some ob → look' p = some ob) {t : Ty} {v : AV} {x : t.2.D} (e : decTy look t v = some x) : decTy look' t v = some x := by
  obtain ⟨ag, s⟩ := t
  cases ag with
  | true => cases v <;> simp only [decTy] at e ⊢ <;> first | (simp at e; done) | exact full_mono (purs_le h _) e
  | false =>
    cases v <;> simp only [decTy] at e ⊢ <;> first | (simp at e; done) | exact full_mono (cs := [pur look _]) (cs' := [pur look' _]) ⟨pur_le h _, trivial⟩ e

theorem decs_mono (h : ∀ p ob, look p = some ob → look' p = some ob) : ∀ {l : List Ty} {vs : List AV} {x : (tyS l).D}, decs look l vs = some x → decs look' l vs = some x
  | [], vs, x, e => by cases vs <;> simp [decs] at e ⊢
  | [t], vs, x, e => by
    cases vs with
    | nil => simp [decs] at e
    | cons v r => cases r with
      | nil => simp only [decs] at e ⊢; exact decTy_mono h e
      | cons _ _ => simp [decs] at e
  | t :: t' :: r, vs, x, e => by
    cases vs with
    | nil => simp [decs] at e
    | cons v vs =>
      simp only [decs] at e
      split at e
      · rename_i y ys e1 e2
        simp at e; subst e
        simp only [decs, decTy_mono h e1, decs_mono h e2]
      · simp at e

theorem setParts_mono (h : ∀ p ob, look p = some ob → look' p = some ob) {ag : Bool} {s : Sch} : ∀ {ps : List (Nat × AV)} {xs ys : List s.D}, setParts look ag s ps xs = some ys → setParts look' ag s ps xs = some ys
  | [], xs, ys, e => e
  | (i, v) :: r, xs, ys, e => by
    simp only [setParts] at e
    split at e
    · rename_i x hx
      split at e
      · rename_i hi
        simp only [setParts, decTy_mono h hx, if_pos hi]
        exact setParts_mono h e
      · simp at e
    · simp at e

theorem readPtr_mono (h : ∀ p ob, look p = some ob → look' p = some ob) {n : Nat} {v : AV} {r : Bool × List AV} (e : readPtr look n v = some r) : readPtr look' n v = some r := by
  cases v <;> simp only [readPtr] at e ⊢ <;> try (first | exact e | (simp at e; done))
  case ptr o off =>
    cases hl : look o with
    | none => simp [hl] at e
    | some ob => rw [h o ob hl]; rw [hl] at e; exact e
  case ptre o ver i off =>
    cases hl : look o with
    | none => simp [hl] at e
    | some ob => rw [h o ob hl]; rw [hl] at e; exact e
  case pix o base s m i off =>
    cases hl : look o with
    | none => simp [hl] at e
    | some ob => rw [h o ob hl]; rw [hl] at e; exact e

theorem writePtr_mono (h : ∀ p ob, look p = some ob → look' p = some ob) {vs : List AV} {v : AV} {r : Bool × Nat × Ob} (e : writePtr look vs v = some r) : writePtr look' vs v = some r := by
  have hp := purs_le h vs
  cases v <;> simp only [writePtr] at e ⊢ <;> try (first | exact e | (simp at e; done))
  case ptr o off =>
    cases hl : look o with
    | none => simp [hl] at e
    | some ob =>
      rw [h o ob hl]; rw [hl] at e
      cases ob with
      | cells fz cs => cases fz <;> exact e
      | map _ _ _ _ _ _ => simp at e
      | it _ _ _ _ _ _ => simp at e
      | arr m ver s xs =>
        cases m <;> simp only [] at e ⊢ <;> try (simp at e; done)
        cases off <;> simp only [] at e ⊢ <;> try (simp at e; done)
        split at e
        · rename_i ys hy; simp only [decN_mono hp hy]; exact e
        · simp at e
  case ptre o ver i off =>
    cases hl : look o with
    | none => simp [hl] at e
    | some ob =>
      rw [h o ob hl]; rw [hl] at e
      cases ob with
      | cells fz cs => exact e
      | map _ _ _ _ _ _ => simp at e
      | it _ _ _ _ _ _ => simp at e
      | arr m ver' s xs =>
        simp only [] at e ⊢
        split at e
        · rename_i h1
          rw [if_pos h1]
          split at e
          · rename_i h2
            rw [if_pos (by simpa using h2)]
            split at e
            · rename_i x hx
              have hle : All2 Le (splice (s.enc (xs.getD i s.dflt)) off (vs.map (pur look))) (splice (s.enc (xs.getD i s.dflt)) off (vs.map (pur look'))) := by
                have hrefl : ∀ l : List AV, All2 Le l l := fun l => by induction l with
                  | nil => trivial
                  | cons _ _ ih => exact ⟨.rfl, ih⟩
                unfold splice
                simp only [List.length_map]
                exact ((hrefl _).append hp).append (hrefl _)
              obtain ⟨r', h3, h4⟩ := dec_mono hle hx
              cases r' with
              | nil => simp only [h3]; exact e
              | cons _ _ => exact h4.elim
            · simp at e
          · simp at e
        · simp at e
  case pix o base s m i off =>
    cases hl : look o with
    | none => simp [hl] at e
    | some ob =>
      rw [h o ob hl]; rw [hl] at e
      cases ob with
      | arr _ _ _ _ => simp at e
      | map _ _ _ _ _ _ => simp at e
      | it _ _ _ _ _ _ => simp at e
      | cells fz cs =>
        cases fz with
        | true => simp at e
        | false =>
          simp only [] at e ⊢
          split at e
          · rename_i h1
            rw [if_pos (by simpa using h1)]
            split at e
            · rename_i xs hxs
              split at e
              · rename_i x hx
                have hle : All2 Le (splice (s.enc (xs.getD i s.dflt)) off (vs.map (pur look))) (splice (s.enc (xs.getD i s.dflt)) off (vs.map (pur look'))) := by
                  have hrefl : ∀ l : List AV, All2 Le l l := fun l => by induction l with
                    | nil => trivial
                    | cons _ _ ih => exact ⟨.rfl, ih⟩
                  unfold splice
                  simp only [List.length_map]
                  exact ((hrefl _).append hp).append (hrefl _)
                obtain ⟨r', h3, h4⟩ := dec_mono hle hx
                cases r' with
                | nil => simp only [hxs, h3]; exact e
                | cons _ _ => exact h4.elim
              · simp at e
            · simp at e
          · simp at e

theorem lenAV_mono (h : ∀ p ob, look p = some ob → look' p = some ob) {v : AV} {n : Nat} (e : lenAV look v = some n) : lenAV look' v = some n := by
  cases v <;> simp only [lenAV] at e ⊢ <;> try (first | exact e | (simp at e; done))
  rename_i o ver
  cases hl : look o with
  | none => simp [hl] at e
  | some ob => rw [h o ob hl]; rw [hl] at e; exact e

theorem ptrOk_mono (h : ∀ p ob, look p = some ob → look' p = some ob) {v : AV} (e : ptrOk look v = true) : ptrOk look' v = true := by
  cases v <;> simp only [ptrOk] at e ⊢ <;> try (first | exact e | (simp at e; done))
  rename_i o ver i off
  cases hl : look o with
  | none => simp [hl] at e
  | some ob => rw [h o ob hl]; rw [hl] at e; exact e

end
end Go.Pi
end
