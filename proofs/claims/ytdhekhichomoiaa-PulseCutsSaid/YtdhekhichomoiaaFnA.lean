/- What functions of the program compute, each proved once, part 1. -/
import Derived.Test.YtdhekhichomoiaaPiC
import Derived.Test.YtdhekhichomoiaaProg
import Derived.RangeFuncLeaves

section
namespace Go.Proofs.Ytdhekhichomoiaa
set_option linter.unusedVariables false
set_option linter.unusedSimpArgs false
open Go Go.Pi
set_option maxRecDepth 100000
theorem progOK : ProgOK Try.prog := ⟨by kernel_rfl, by kernel_rfl⟩
end Go.Proofs.Ytdhekhichomoiaa
end

section
namespace Go.Proofs.Ytdhekhichomoiaa
open Go Go.Pi Go.RowKit
set_option maxRecDepth 100000
set_option linter.unusedVariables false
set_option linter.unusedSimpArgs false

def f148 (n : Int) : Int := minmax true n (IntKind.i64.wrap (0 - n))
def f148_e : Entry := { doms := [(false, (.int .i64))], cods := [(false, (.int .i64))], pre := fun _ => True, fn := f148, uq := false, total := true }
def f148_E : Env := []
def f148_A : Anns := { loops := [], own := [] }
theorem f148_run (a0 : Int) (K : Int → Prop) : runF Try.prog f148_E f148_A 6 Try.f148 f148_e.doms f148_e.cods a0 K =
    (K (minmax true a0 (IntKind.i64.wrap (0 - a0)))) := by kernel_rfl
theorem f148_t (a0 : Int) (K : Int → Prop) (hK : ∀ y : Int, y = f148 a0 → K y) : RunF Try.prog f148_E f148_A 6 Try.f148 f148_e.doms f148_e.cods a0 K := by
  refine ⟨?_⟩
  rw [f148_run a0 K]
  exact hK _ (by simp only [f148])
theorem f148_fn : f148_e.fn = f148 := rfl
theorem f148_ok : EntryOK Try.prog 148 f148_e := by
  refine entryF progOK (EnvOK.nil) (A := f148_A) (d := 6) Try.func148 rfl rfl (fun _ _ => trivial) fun x hpre => ?_
  exact f148_t x _ fun _ h => h.trans (congrFun f148_fn.symm _)
end Go.Proofs.Ytdhekhichomoiaa
end

section
namespace Go.Proofs.Ytdhekhichomoiaa
open Go Go.Pi Go.RowKit
set_option maxRecDepth 100000
set_option linter.unusedVariables false
set_option linter.unusedSimpArgs false

def stopRow (r : List Int) : Bool := r.length == 1 || decide (f148 (r.getD (r.length - 1) 0) ≤ f148 (r.getD 0 0))
def nextAt (r : List Int) (k : Nat) : Int :=
  IntKind.i64.wrap (IntKind.i64.wrap (r.getD (r.length - 1) 0 * r.getD (k + 1) 0) - IntKind.i64.wrap (r.getD 0 0 * r.getD (r.length - 2 - k) 0))
def nextRow (r : List Int) : List Int := (List.range (r.length - 1)).map (nextAt r)
def lastRow : Nat → List Int → List Int
  | 0, r => r
  | k + 1, r => if stopRow r then r else lastRow k (nextRow r)
def f92 (l : List Int) : Bool := (lastRow l.length l).length == 1 && (lastRow l.length l).getD 0 0 != 0
def f92_pre (l : List Int) : Prop := 0 < l.length ∧ l.length ≤ 1048576
def f92_e : Entry := { doms := [(false, .sl (.int .i64))], cods := [(false, .bool)], pre := f92_pre, fn := f92 }

/-! ### the code -/
def seqL : Code → Code
  | .seq a _ => a
  | c => c
def seqR : Code → Code
  | .seq _ b => b
  | c => c
def inner : Code → Code
  | .block _ c => c
  | .loop c => c
  | c => c
noncomputable def c147 : Code := Try.f147.body.getD .skip
noncomputable def r0 : Code := seqL c147
noncomputable def lp : Code := inner (inner (seqR c147))
noncomputable def yr : Code := seqL (seqL lp)
noncomputable def rx : Code := seqR lp
theorem c147_is : Try.f147.body = some (.seq r0 (.block 0 (.loop (.seq (.seq yr (.cond (.tmp 11) .skip (.exit 0))) rx)))) := by kernel_rfl

def rx_A : Anns := { loops := [(1048578, { tms := [(0, .keep), (3, .keep), (4, .keep), (5, .ref 1052673), (32, .keep), (33, .data false (.int .i64))], obs := [(1052673, .arr (.uniq) (.int .i64))], fz := [] })], own := [] }
def rx_E : Env := [(148, f148_e)]
def rx_tm (y : Value) (row : List Int) : List AV := [.cst y, .undef, .undef, .sl false (.int .i64) row] ++ List.replicate 59 .undef
def rx_k (y : Value) (K : Bool → List Int → Prop) (e : Ex) (σ : St) : Prop := match e with
  | .exit _ => False
  | .ret => K true []
  | .normal => match decTy (fun o => lk o (frz (refsOf (get σ.tm 3)) σ).sto) (false, .sl (.int .i64)) (get σ.tm 3) with
    | some r => (get σ.tm 0 = .cst y ∧ σ.tm.length = 63) ∧ K false r
    | none => False
theorem rx_run (y : Value) (a3 : List Int) (K : Bool → List Int → Prop) : run Try.prog rx_E rx_A (inlN Try.prog rx_E rx_A 6) 1 rx 0 { tm := rx_tm y a3, outs := [], sto := [], dt := [], dob := [] } (rx_k y K) =
  (br (lenOk (a3.length))
  (br ((IntKind.i64.wrap (((a3.length) : Int) - 1)) == 0)
  (K true [])
  (br (decide (0 ≤ (IntKind.i64.wrap (((a3.length) : Int) - 1))) && decide ((IntKind.i64.wrap (((a3.length) : Int) - 1)) < ((a3.length) : Int)))
  (br (decide (0 ≤ 0) && decide (0 < ((a3.length) : Int)))
  (br (decide ((f148 (a3.getD ((IntKind.i64.wrap (((a3.length) : Int) - 1)).toNat) 0)) ≤ (f148 (a3.getD 0 0))))
  (K true [])
  (br (decide (0 ≤ (IntKind.i64.wrap (((a3.length) : Int) - 1))) && decide ((IntKind.i64.wrap (((a3.length) : Int) - 1)) = (IntKind.i64.wrap (((a3.length) : Int) - 1))) && roomOk ((IntKind.i64.wrap (((a3.length) : Int) - 1)).toNat) 8)
  (br (lenOk ((List.replicate ((IntKind.i64.wrap (((a3.length) : Int) - 1)).toNat) (0 : Int)).length))
  (LoopP (V := Int × List Int × Unit) (fun again v => (fun (again1 : Int → List Int → Prop) (v1_0 : Int) (v1_1 : List Int) =>
  br (decide (v1_0 < (((List.replicate ((IntKind.i64.wrap (((a3.length) : Int) - 1)).toNat) (0 : Int)).length) : Int)))
  (br (decide (0 ≤ (IntKind.i64.wrap (((a3.length) : Int) - 1))) && decide ((IntKind.i64.wrap (((a3.length) : Int) - 1)) < ((a3.length) : Int)))
  (br (decide (0 ≤ (IntKind.i64.wrap (v1_0 + 1))) && decide ((IntKind.i64.wrap (v1_0 + 1)) < ((a3.length) : Int)))
  (br (decide (0 ≤ 0) && decide (0 < ((a3.length) : Int)))
  (br (decide (0 ≤ (IntKind.i64.wrap ((IntKind.i64.wrap ((IntKind.i64.wrap (((a3.length) : Int) - 1)) - 1)) - v1_0))) && decide ((IntKind.i64.wrap ((IntKind.i64.wrap ((IntKind.i64.wrap (((a3.length) : Int) - 1)) - 1)) - v1_0)) < ((a3.length) : Int)))
  (br (decide (0 ≤ v1_0) && decide (v1_0 < ((v1_1.length) : Int)))
  (again1 (IntKind.i64.wrap (v1_0 + 1)) (v1_1.set v1_0.toNat (IntKind.i64.wrap ((IntKind.i64.wrap ((a3.getD ((IntKind.i64.wrap (((a3.length) : Int) - 1)).toNat) 0) * (a3.getD ((IntKind.i64.wrap (v1_0 + 1)).toNat) 0))) - (IntKind.i64.wrap ((a3.getD 0 0) * (a3.getD ((IntKind.i64.wrap ((IntKind.i64.wrap ((IntKind.i64.wrap (((a3.length) : Int) - 1)) - 1)) - v1_0)).toNat) 0)))))))
  False)
  False)
  False)
  False)
  False)
  ((AV.cst y = AV.cst y ∧ (63 : Nat) = 63) ∧ K false v1_1))
  (fun v1_0 v1_1 => again (v1_0, v1_1, ())) v.1 v.2.1) (0, (List.replicate ((IntKind.i64.wrap (((a3.length) : Int) - 1)).toNat) (0 : Int)), ()))
  True)
  False))
  False)
  False))
  True
  ) := by kernel_rfl
theorem rx_t (y : Value) (a3 : List Int) (K : Bool → List Int → Prop) (h0 : 0 < a3.length) (hb : a3.length ≤ 1048576) (hs : stopRow a3 = true → K true []) (hn : stopRow a3 = false → K false (nextRow a3)) :
    run Try.prog rx_E rx_A (inlN Try.prog rx_E rx_A 6) 1 rx 0 { tm := rx_tm y a3, outs := [], sto := [], dt := [], dob := [] } (rx_k y K) := by
  rw [rx_run]
  have hw : IntKind.i64.wrap ((a3.length : Int) - 1) = ((a3.length - 1 : Nat) : Int) := by rw [wr (by omega) (by omega)]; omega
  simp only [hw, Int.toNat_natCast, List.length_replicate]
  rw [br_true_]
  intro _
  rw [br_both]
  refine ⟨fun h1 => hs ?_, fun h1 => ?_⟩
  · simp only [beq_iff_eq] at h1
    simp [stopRow, show a3.length = 1 by omega]
  have h2 : a3.length ≠ 1 := fun e => by simp [e] at h1
  rw [br_false_]
  refine ⟨by simp; omega, ?_⟩
  rw [br_false_]
  refine ⟨by simp; omega, ?_⟩
  rw [br_both]
  refine ⟨fun h3 => hs (by simp only [stopRow, h3, Bool.or_true]), fun h3 => ?_⟩
  have hstop : stopRow a3 = false := by simp only [stopRow, h3, Bool.or_false, beq_eq_false_iff_ne]; exact h2
  rw [br_false_]
  refine ⟨by simp [roomOk]; omega, ?_⟩
  rw [br_true_]
  intro _
  refine LoopP.up (a3.length - 1 : Nat) (fun i v => v.1 = fillTo (a3.length - 1) (nextAt a3) 0 i.toNat) (fun again i v hi0 hin hI hag => ?_) (by omega) fillTo_zero.symm
  obtain ⟨v, u⟩ := v
  simp only at hI hag ⊢
  subst hI
  rw [br_both]
  refine ⟨fun hi => ?_, fun hi => ?_⟩
  · simp only [decide_eq_true_eq] at hi
    have e1 : IntKind.i64.wrap (i + 1) = i + 1 := wr (by omega) (by omega)
    have e2 : IntKind.i64.wrap (((a3.length - 1 : Nat) : Int) - 1) = ((a3.length - 1 : Nat) : Int) - 1 := wr (by omega) (by omega)
    have e3 : IntKind.i64.wrap (((a3.length - 1 : Nat) : Int) - 1 - i) = ((a3.length - 1 : Nat) : Int) - 1 - i := wr (by omega) (by omega)
    rw [e1, e2, e3, fillTo_length]
    simp only [br_false_]
    refine ⟨by simp; omega, by simp; omega, by simp; omega, by simp; omega, by simp; omega, ?_⟩
    refine hag _ hi ?_
    show _ = fillTo (a3.length - 1) (nextAt a3) 0 (i + 1).toNat
    rw [show (i + 1).toNat = i.toNat + 1 by omega, ← fillTo_step (by omega)]
    congr 1
    unfold nextAt
    rw [show (((a3.length - 1 : Nat) : Int) - 1 - i).toNat = a3.length - 2 - i.toNat by omega]
  · have hi : ¬ i < ((a3.length - 1 : Nat) : Int) := by simpa using hi
    rw [show i.toNat = a3.length - 1 by omega, fillTo_all]
    exact ⟨by simp, hn hstop⟩
end Go.Proofs.Ytdhekhichomoiaa
end

section
namespace Go.Proofs.Ytdhekhichomoiaa
open Go Go.Pi Go.RowKit
set_option maxRecDepth 100000
set_option linter.unusedVariables false
set_option linter.unusedSimpArgs false

def f96 (l : List Int) : List Int := l
def f96_pre (l : List Int) : Prop := 0 < l.length ∧ l.length ≤ 1073741824
def f96_e : Entry := { doms := [(false, (.sl (.int .i64)))], cods := [(false, (.sl (.int .i64)))], pre := f96_pre, fn := f96, uq := true, total := false }
def f96_E : Env := []
def f96_A : Anns := { loops := [], own := [1051648] }
theorem f96_run (a0 : List Int) (K : (List Int) → Prop) : runU Try.prog f96_E f96_A 6 Try.f96 f96_e.doms f96_e.cods a0 K =
    (br (decide (0 < (a0.length)))
    (br (roomOk (0 + (a0.length)) 8)
    (K (([] : List Int) ++ a0))
    False)
    False) := by kernel_rfl
theorem f96_t (a0 : List Int) (hpre : f96_pre a0) (K : (List Int) → Prop) (hK : ∀ y : List Int, y = f96 a0 → K y) : RunU Try.prog f96_E f96_A 6 Try.f96 f96_e.doms f96_e.cods a0 K := by
  refine ⟨?_⟩
  rw [f96_run a0 K]
  simp only [br_false_, decide_eq_true_eq, roomOk_iff]
  exact ⟨hpre.1, by have := hpre.2; omega, hK _ (by simp [f96])⟩
theorem f96_fn : f96_e.fn = f96 := rfl
theorem f96_ok : EntryOK Try.prog 96 f96_e := by
  refine entryFU progOK (EnvOK.nil) (A := f96_A) (d := 6) Try.func96 rfl (fun h => by cases h) fun x hpre => ?_
  exact f96_t x hpre _ fun _ h => h.trans (congrFun f96_fn.symm _)
end Go.Proofs.Ytdhekhichomoiaa
end

section
namespace Go.Proofs.Ytdhekhichomoiaa
open Go Go.Pi Go.RowKit
set_option maxRecDepth 100000
set_option linter.unusedVariables false
set_option linter.unusedSimpArgs false

theorem yr_is : yr = Code.region 1 #[{ dst := some 9, op := .move (.tmp 0), type := 90, pos := "lock.go:96", after := #[], guard := none },
    { dst := some 10, op := .move (.tmp 3), type := 22, pos := "lock.go:96", after := #[], guard := none },
    { dst := some 11, op := .call { callee := .value (.tmp 9), args := #[.tmp 10], argTypes := #[22] }, type := 4, pos := "lock.go:96", after := #[{ on := 0, ground := .data }, { on := 1, ground := .data }], guard := none }] false := by kernel_rfl

theorem opIn_move {F : Fence} {n : Nat} {P : Program} {o : Oper} {a : Act} {w : World} {next : Act → World → Prop} {Q : Exit → Act → World → Prop} {x : Operand} (ho : o.op = .move x ∨ o.op = .assign x)
    (hF : ∀ f, F.fn f) (h : next (a.put o.dst (a.eval x)) w) : o.wpIn F n P a w next Q := by
  refine ⟨fun _ _ => hF _, ?_⟩
  rw [Oper.semAt_eq _ _ _ (fun c e => by rcases ho with ho | ho <;> rw [ho] at e <;> cases e)]
  have : (execOp a.eval o).run P w = .ok (.value (a.eval x)) w := by
    unfold execOp
    rcases ho with ho | ho <;> simp only [ho] <;> rfl
  rw [this]
  exact h

theorem getD_set_same {a : Array Value} {i : Nat} {v d : Value} (h : i < a.size) : (a.setIfInBounds i v).getD i d = v := by
  simp [Array.getD_eq_getD_getElem?, Array.getElem?_setIfInBounds, h]
theorem getD_set_other {a : Array Value} {i j : Nat} {v d : Value} (h : i ≠ j) : (a.setIfInBounds i v).getD j d = a.getD j d := by
  simp [Array.getD_eq_getD_getElem?, Array.getElem?_setIfInBounds, h]

theorem yr_wp {n : Nat} {a : Act} {w : World} {L : Nat} {v : Value} {Q : Exit → Act → World → Prop} (hsz : 63 ≤ a.tmps.size) (h0 : a.tmps.getD 0 undef = .func (.yield L) #[] #[]) (h3 : a.tmps.getD 3 undef = v)
    {r : Loop} (hL : w.heap[L]? = some (.loop r)) (hps : r.params = #[7])
    (hround : RoundIn Fence.wide (n - 1) Try.prog L r.fn (r.tmps.setIfInBounds 7 v) r.assign r.body w fun
      | .returned b, w' => Q .normal { a with tmps := ((a.tmps.setIfInBounds 9 (.func (.yield L) #[] #[])).setIfInBounds 10 v).setIfInBounds 11 b } w'
      | _, _ => False) : yr.wpIn Fence.wide n Try.prog Q a w := by
  rw [yr_is]
  refine wpIn_region ?_
  have hrun := run_yield (P := Try.prog) (args := #[v]) hL (by rw [hps]; rfl)
  rw [hps] at hrun
  simp only [List.size_toArray, List.length_cons, List.length_nil, Nat.reduceAdd, List.range, List.range.loop, wpOpsIn, List.getElem?_toArray, List.getElem?_cons_zero, List.getElem?_cons_succ, Region.wanted, if_true]
  refine opIn_move (.inl rfl) (fun _ => trivial) (opIn_move (.inl rfl) (fun _ => trivial) ?_)
  have e0 : a.eval (.tmp 0) = .func (.yield L) #[] #[] := h0
  rw [e0]
  have e3 : (a.put (some 9) (.func (.yield L) #[] #[])).eval (.tmp 3) = v := (getD_set_other (by decide)).trans h3
  rw [show (a.put _ _).eval (.tmp 3) = v from e3]
  obtain ⟨a2, ha2⟩ : ∃ a2, a2 = (a.put (some 9) (.func (.yield L) #[] #[])).put (some 10) v := ⟨_, rfl⟩
  have e9 : a2.eval (.tmp 9) = .func (.yield L) #[] #[] := by
    rw [ha2]
    exact (getD_set_other (by decide)).trans (getD_set_same (by omega))
  have e10 : a2.eval (.tmp 10) = v := by
    rw [ha2]
    exact getD_set_same (by show 10 < (a.tmps.setIfInBounds 9 _).size; rw [Array.size_setIfInBounds]; omega)
  have goal : ∀ next : Act → World → Prop, (∀ b w', (fun (e : Ending) (w' : World) => match e with
      | .returned b => Q .normal { a with tmps := ((a.tmps.setIfInBounds 9 (.func (.yield L) #[] #[])).setIfInBounds 10 v).setIfInBounds 11 b } w'
      | _ => False) (.returned b) w' → next (a2.put (some 11) b) w') →
      Oper.wpIn Fence.wide n Try.prog { dst := some 11, op := .call { callee := .value (.tmp 9), args := #[.tmp 10], argTypes := #[22] }, type := 4, pos := "lock.go:96", after := #[{ on := 0, ground := .data }, { on := 1, ground := .data }], guard := none } a2 w next Q := by
    intro next hn
    refine ⟨fun _ _ => trivial, ?_⟩
    rw [Oper.semAt_eq _ _ _ (fun c e => by cases e)]
    have hex : (execOp a2.eval { dst := some 11, op := .call { callee := .value (.tmp 9), args := #[.tmp 10], argTypes := #[22] }, type := 4, pos := "lock.go:96", after := #[{ on := 0, ground := .data }, { on := 1, ground := .data }], guard := none }).run Try.prog w = .ok (.round L r.fn (r.tmps.setIfInBounds 7 v) r.assign r.body) w := by
      unfold execOp
      simp only [resolve, e9, Sem.run_bind, Sem.run_pure, Result.andThen_ok, Deferred.ofValue, invoke, List.map_toArray, List.map_cons, List.map_nil, e10]
      simpa [go_sem] using hrun
    rw [hex]
    refine ⟨fun h => (by cases h), ?_⟩
    exact hround.mono fun e w' he => by
      cases e with
      | returned b => exact hn b w' he
      | _ => exact he.elim
  rw [← ha2]
  exact goal _ fun b w' h => by rw [ha2]; exact h
end Go.Proofs.Ytdhekhichomoiaa
end

section
namespace Go.Proofs.Ytdhekhichomoiaa
open Go Go.Pi Go.RowKit
set_option maxRecDepth 100000
set_option linter.unusedVariables false
set_option linter.unusedSimpArgs false

def asg : Code := .region 3 #[{ dst := some 4, op := .assign (.tmp 7), type := 22, pos := "lock.go:121", after := #[], guard := none }] false
def bod : Code := .block 1 (.region 4 #[{ dst := some 8, op := .move (.tmp 4), type := 22, pos := "lock.go:122", after := #[], guard := none },
  { dst := none, op := .store 22 (.tmp 3) (.tmp 8), type := 0, pos := "lock.go:122", after := #[{ on := 0, ground := .data }, { on := 0, ground := .phase }], guard := none }] false)
def recL (fn D : Nat) (A0 : Array Value) : Loop := { state := .ready, pending := none, fn := fn, tmps := A0, params := #[7], assign := asg, body := bod, defers := D }

/-- One cell has been turned. -/
structure Turned (b : Nat) (ty : TypeId) (v : Value) (W W' : World) : Prop where
  os : W'.os = W.os
  tape : W'.tape = W.tape
  output : W'.output = W.output
  size : W'.heap.size = W.heap.size
  here : W'.heap[b]? = some (.cells #[v] ty (0, 0))
  other : ∀ k, k ≠ b → W'.heap[k]? = W.heap[k]?

theorem opIn_store {F : Fence} {n : Nat} {P : Program} {o : Oper} {a : Act} {w : World} {next : Act → World → Prop} {Q : Exit → Act → World → Prop} {t : TypeId} {p x : Operand} (ho : o.op = .store t p x)
    (hF : ∀ f, F.fn f) {b : Nat} {v lv : Value} {ty : TypeId} (hp : a.eval p = .pointer (some ⟨b, 0, none⟩)) (hx : a.eval x = v) (hv : Leaf v) (hi : (P.info? t).isSome = true) (hn : szOf P t = 1)
    (hb : w.heap[b]? = some (.cells #[lv] ty (0, 0))) (h : next (a.put o.dst Go.undef) (w.setRow b #[v])) : o.wpIn F n P a w next Q := by
  refine ⟨fun _ _ => hF _, ?_⟩
  rw [Oper.semAt_eq _ _ _ (fun c e => by rw [ho] at e; cases e)]
  have hc : v.cells = #[v] := Leaf.cells hv
  have hs := storeVar_run (P := P) (w := w) (t := t) (off := 0) (v := v) hb hi (by rw [hc, hn]; rfl) (by rw [hc]; simpa using hv) (by rw [hc]; simp)
  have : (execOp a.eval o).run P w = .ok .skip (w.setRow b #[v]) := by
    unfold execOp
    simp only [ho, hp, hx, Instr.storeAt, Instr.sureAddr, Sem.run_bind, Sem.run_pure, Result.andThen_ok, hs, hc]
    rfl
  rw [this]
  exact h

theorem round_wp {m fn D L b3 : Nat} {A0 : Array Value} {v lv : Value} {W : World} {ty3 : TypeId} (hsz : 18 ≤ A0.size) (hA3 : A0.getD 3 undef = .pointer (some ⟨b3, 0, none⟩))
    (hL : W.heap[L]? = some (.loop (recL fn D A0))) (hb3 : W.heap[b3]? = some (.cells #[lv] ty3 (0, 0))) (hv : Leaf v) :
    RoundIn Fence.wide m Try.prog L fn (A0.setIfInBounds 7 v) asg bod W fun e W' => e = .returned (.bool true) ∧ Turned b3 ty3 v W W' := by
  have hne : L ≠ b3 := fun e => by rw [e, hb3] at hL; cases hL
  refine roundIn_of_wpIn trivial ?_
  refine wpIn_region ?_
  simp only [List.size_toArray, List.length_cons, List.length_nil, Nat.reduceAdd, List.range, List.range.loop, wpOpsIn, List.getElem?_toArray, List.getElem?_cons_zero, List.getElem?_cons_succ, Region.wanted, if_true]
  refine opIn_move (.inr rfl) (fun _ => trivial) ?_
  refine ⟨_, run_beginRound hL rfl, ?_⟩
  obtain ⟨W2, hW2⟩ : ∃ W2, W2 = W.putObj L (.loop { recL fn D A0 with state := .busy }) := ⟨_, rfl⟩
  rw [← hW2]
  have hLlt : L < W.heap.size := (Array.getElem?_eq_some_iff.1 hL).1
  have hL2 : W2.heap[L]? = some (.loop { recL fn D A0 with state := .busy }) := by rw [hW2]; exact World.putObj_heap_same hLlt
  have hb2 : W2.heap[b3]? = some (.cells #[lv] ty3 (0, 0)) := by rw [hW2, World.putObj_heap_other (Ne.symm hne)]; exact hb3
  refine wpIn_block ?_
  refine wpIn_region ?_
  simp only [List.size_toArray, List.length_cons, List.length_nil, Nat.reduceAdd, List.range, List.range.loop, wpOpsIn, List.getElem?_toArray, List.getElem?_cons_zero, List.getElem?_cons_succ, Region.wanted, if_true]
  refine opIn_move (.inl rfl) (fun _ => trivial) ?_
  obtain ⟨a2, ha2⟩ : ∃ a2 : Act, a2 = (Act.put { tmps := A0.setIfInBounds 7 v, defers := [] } (some 4) (Act.eval { tmps := A0.setIfInBounds 7 v, defers := [] } (.tmp 7))) := ⟨_, rfl⟩
  have h7 : Act.eval { tmps := A0.setIfInBounds 7 v, defers := [] } (.tmp 7) = v := getD_set_same (by omega)
  have h4 : a2.eval (.tmp 4) = v := by
    rw [ha2, h7]
    exact getD_set_same (by show 4 < (A0.setIfInBounds 7 v).size; rw [Array.size_setIfInBounds]; omega)
  rw [← ha2, h4]
  obtain ⟨a3, ha3⟩ : ∃ a3, a3 = a2.put (some 8) v := ⟨_, rfl⟩
  have h8 : a3.eval (.tmp 8) = v := by
    rw [ha3, ha2]
    exact getD_set_same (by show 8 < ((A0.setIfInBounds 7 v).setIfInBounds 4 _).size; rw [Array.size_setIfInBounds, Array.size_setIfInBounds]; omega)
  have h3 : a3.eval (.tmp 3) = .pointer (some ⟨b3, 0, none⟩) := by
    rw [ha3, ha2]
    exact (getD_set_other (by decide)).trans ((getD_set_other (by decide)).trans ((getD_set_other (by decide)).trans hA3))
  refine opIn_store (v := v) rfl (fun _ => trivial) (by rw [← ha3]; exact h3) (by rw [← ha3]; exact h8) hv (by kernel_rfl) (by kernel_rfl) hb2 ?_
  obtain ⟨W3, hW3⟩ : ∃ W3, W3 = W2.setRow b3 #[v] := ⟨_, rfl⟩
  rw [← hW3]
  have hL3 : W3.heap[L]? = some (.loop { recL fn D A0 with state := .busy }) := by rw [hW3, setRow_other _ _ _ _ hne]; exact hL2
  have hb3' : W3.heap[b3]? = some (.cells #[v] ty3 (0, 0)) := by rw [hW3]; exact setRow_heap _ _ _ _ _ _ hb2
  refine (show ∃ v w', _ ∧ _ from ⟨_, _, run_endRound none hL3, rfl, ?_⟩)
  have hsz3 : W3.heap.size = W.heap.size := by rw [hW3, size_setRow, hW2, World.putObj_size]
  refine ⟨by rw [hW3, hW2]; rfl, by rw [hW3, hW2]; rfl, by rw [hW3, hW2]; rfl, by rw [World.putObj_size, hsz3], ?_, fun k hk => ?_⟩
  · rw [World.putObj_heap_other (Ne.symm hne)]; exact hb3'
  · by_cases e : k = L
    · subst e
      rw [World.putObj_heap_same (by omega), hL]
      rfl
    · rw [World.putObj_heap_other e, hW3, setRow_other _ _ _ _ hk, hW2, World.putObj_heap_other e]
end Go.Proofs.Ytdhekhichomoiaa
end

section
namespace Go.Proofs.Ytdhekhichomoiaa
open Go Go.Pi Go.RowKit
set_option maxRecDepth 100000
set_option linter.unusedVariables false
set_option linter.unusedSimpArgs false

abbrev sI : Sch := .sl (.int .i64)

/-- What a loop over rows keeps. -/
structure Head (B0 : Nat) (w0 : World) (L D b3 fn : Nat) (ty3 : TypeId) (A0 : Array Value) (W : World) : Prop where
  below : Below B0 w0 W
  rcd : W.heap[L]? = some (.loop (recL fn D A0))
  dfr : W.heap[D]? = some (.deferred (some []))
  cell : ∃ lv, W.heap[b3]? = some (.cells #[lv] ty3 (0, 0))

/-- A row, as a value. -/
def Row (b3 L : Nat) (W : World) (row : List Int) (v : Value) : Prop := ∃ S : Cells, (∀ b o, S b o → b < W.heap.size ∧ b ≠ b3 ∧ b ≠ L) ∧ DR S W sI row [v]

theorem lt_of_heap {W : World} {k : Nat} {o : Obj} (h : W.heap[k]? = some o) : k < W.heap.size := (Array.getElem?_eq_some_iff.1 h).1

section
variable {B0 L D b3 fn : Nat} {w0 W W' : World} {ty3 : TypeId} {A0 : Array Value}

theorem Head.on (h : Head B0 w0 L D b3 fn ty3 A0 W) (hB : B0 ≤ W.heap.size) (hb : Below W.heap.size W W') : Head B0 w0 L D b3 fn ty3 A0 W' := by
  obtain ⟨lv, hc⟩ := h.cell
  exact ⟨h.below.trans (hb.mono hB), (hb.block _ (lt_of_heap h.rcd)).trans h.rcd, (hb.block _ (lt_of_heap h.dfr)).trans h.dfr, lv, (hb.block _ (lt_of_heap hc)).trans hc⟩

theorem Head.turned {v : Value} (h : Head B0 w0 L D b3 fn ty3 A0 W) (hB3 : B0 ≤ b3) (hT : Turned b3 ty3 v W W') : Head B0 w0 L D b3 fn ty3 A0 W' := by
  obtain ⟨lv, hc⟩ := h.cell
  have hL : L ≠ b3 := fun e => by have := h.rcd; rw [e, hc] at this; cases this
  have hD : D ≠ b3 := fun e => by have := h.dfr; rw [e, hc] at this; cases this
  refine ⟨h.below.trans ⟨hT.os, hT.tape, hT.output, by rw [hT.size]; exact Nat.le_refl _, fun k hk => hT.other k (by omega)⟩, (hT.other _ hL).trans h.rcd, (hT.other _ hD).trans h.dfr, v, hT.here⟩

theorem Row.turned {v : Value} {row : List Int} {u : Value} (h : Row b3 L W row u) (hT : Turned b3 ty3 v W W') : Row b3 L W' row u := by
  obtain ⟨S, hS, hd⟩ := h
  refine ⟨S, fun b o hs => ⟨by rw [hT.size]; exact (hS b o hs).1, (hS b o hs).2⟩, DR.mono (S := S) (w := W) (fun b o hs => ⟨hs, ?_⟩) hd⟩
  exact World.cell?_of_block (hT.other b (hS b o hs).2.1)
end

def r0_A : Anns := { loops := [], own := [] }
def r0_E : Env := [(96, f96_e)]
def r0_tm (y : Value) (l : List Int) : List AV := [.cst y, .pel sI [l] 0 0] ++ List.replicate 61 .undef
theorem r0_run (y : Value) (l : List Int) (K : Bool → List Int → Prop) : run Try.prog r0_E r0_A (inlN Try.prog r0_E r0_A 6) 1 r0 0 { tm := r0_tm y l, outs := [], sto := [], dt := [], dob := [] } (rx_k y K) =
    (f96_pre l ∧ ((AV.cst y = AV.cst y ∧ (63 : Nat) = 63) ∧ K false (f96 l))) := by kernel_rfl

theorem lastRow_stop {k : Nat} {row : List Int} (hk : 0 < k) (h : stopRow row = true) : lastRow k row = row := by
  cases k with
  | zero => omega
  | succ k => simp [lastRow, h]
theorem lastRow_next {k : Nat} {row : List Int} (hk : 0 < k) (h : stopRow row = false) : lastRow k row = lastRow (k - 1) (nextRow row) := by
  cases k with
  | zero => omega
  | succ k => simp [lastRow, h]
theorem nextRow_length {row : List Int} : (nextRow row).length = row.length - 1 := by simp [nextRow]
theorem stop_one {row : List Int} (h : stopRow row = false) : row.length ≠ 1 := fun e => by simp [stopRow, e] at h

theorem rows_loop {n B0 L D b3 fn : Nat} {w0 : World} {ty3 : TypeId} {A0 : Array Value} (hA0 : 18 ≤ A0.size) (hA3 : A0.getD 3 undef = .pointer (some ⟨b3, 0, none⟩)) (hB3 : B0 ≤ b3) (last : List Int)
    {a : Act} {W : World} (hd : a.defers = []) (hsz : 63 ≤ a.tmps.size) (hy : a.tmps.getD 0 undef = .func (.yield L) #[] #[]) (hH : Head B0 w0 L D b3 fn ty3 A0 W) {row : List Int} {k : Nat}
    (hr : Row b3 L W row (a.tmps.getD 3 undef)) (hp : 0 < row.length) (hle : row.length ≤ 1048576) (hk : row.length ≤ k) (hl : lastRow k row = last) {Q : Exit → Act → World → Prop}
    (hQ : ∀ a' W' v, a'.defers = [] → Head B0 w0 L D b3 fn ty3 A0 W' → W'.heap[b3]? = some (.cells #[v] ty3 (0, 0)) → Row b3 L W' last v → Q .ret a' W') :
    (Code.loop (.seq (.seq yr (.cond (.tmp 11) .skip (.exit 0))) rx)).wpIn Fence.wide n Try.prog Q a W := by
  refine wpIn_loop (fun a W => a.defers = [] ∧ 63 ≤ a.tmps.size ∧ a.tmps.getD 0 undef = .func (.yield L) #[] #[] ∧ Head B0 w0 L D b3 fn ty3 A0 W ∧
      ∃ (row : List Int) (k : Nat), Row b3 L W row (a.tmps.getD 3 undef) ∧ 0 < row.length ∧ row.length ≤ 1048576 ∧ row.length ≤ k ∧ lastRow k row = last)
    (fun a W => match a.tmps.getD 3 undef with
      | .slice _ m _ => m
      | _ => 0) ⟨hd, hsz, hy, hH, row, k, hr, hp, hle, hk, hl⟩ fun a W hI => ?_
  obtain ⟨hd, hsz, hy, hH, row, k, ⟨S, hS, hDR⟩, hp, hle, hk, hl⟩ := hI
  obtain ⟨lv, hcell⟩ := hH.cell
  have hv : Leaf (a.tmps.getD 3 undef) := DR.leaf hDR _ (by simp)
  have hsl : ∃ ad cap, a.tmps.getD 3 undef = .slice ad row.length cap := by
    obtain ⟨ad, cap, hsl, _⟩ := hDR
    simp only [List.cons.injEq, and_true] at hsl
    exact ⟨ad, cap, hsl⟩
  obtain ⟨ad, cap, hsl⟩ := hsl
  refine wpIn_seq (wpIn_seq (yr_wp hsz hy rfl hH.rcd rfl ((round_wp hA0 hA3 hH.rcd hcell hv).mono fun e W2 he => ?_)))
  obtain ⟨rfl, hT⟩ := he
  obtain ⟨a2, ha2⟩ : ∃ a2 : Act, a2 = { a with tmps := ((a.tmps.setIfInBounds 9 (.func (.yield L) #[] #[])).setIfInBounds 10 (a.tmps.getD 3 undef)).setIfInBounds 11 (.bool true) } := ⟨_, rfl⟩
  have h11 : a2.eval (.tmp 11) = .bool true := by
    rw [ha2]
    exact getD_set_same (by rw [Array.size_setIfInBounds, Array.size_setIfInBounds]; omega)
  have h2sz : a2.tmps.size = a.tmps.size := by rw [ha2]; simp
  have h20 : a2.tmps.getD 0 undef = .func (.yield L) #[] #[] := by
    rw [ha2]
    exact (getD_set_other (by decide)).trans ((getD_set_other (by decide)).trans ((getD_set_other (by decide)).trans hy))
  have h23 : a2.tmps.getD 3 undef = a.tmps.getD 3 undef := by
    rw [ha2]
    exact (getD_set_other (by decide)).trans ((getD_set_other (by decide)).trans (getD_set_other (by decide)))
  have h2d : a2.defers = [] := by rw [ha2]; exact hd
  have hD2 : DR S W2 sI row [a.tmps.getD 3 undef] := DR.mono (S := S) (w := W) (fun b o hs => ⟨hs, World.cell?_of_block (hT.other b (hS b o hs).2.1)⟩) hDR
  have hH2 := hH.turned hB3 hT
  have hB2 : B0 ≤ W2.heap.size := by have := lt_of_heap hT.here; omega
  dsimp only
  rw [← ha2]
  refine wpIn_cond_true h11 (wpIn_skip ?_)
  refine (wpIn_wide (n := n)).2 (stretch progOK (EnvOK.cons f148_ok EnvOK.nil) (rx_t (.func (.yield L) #[] #[]) row (fun r y => (r = true → stopRow row = true) ∧ (r = false → stopRow row = false ∧ y = nextRow row)) hp hle
    (fun h => ⟨fun _ => h, fun e => (by cases e)⟩) (fun h => ⟨fun e => (by cases e), fun _ => ⟨h, rfl⟩⟩)) (S := S) (fun b o hs => by rw [hT.size]; exact (hS b o hs).1) (by rw [h2sz]; exact hsz) (fun t => ?_) h2d fun e σ' G' a' W3 hR hd' hk' => ?_)
  · match t with
    | 0 => exact h20
    | 1 => exact trivial
    | 2 => exact trivial
    | 3 =>
      refine ⟨?_, fun e => by cases e⟩
      rw [h23]
      exact hD2
    | t + 4 =>
      have : get (rx_tm (.func (.yield L) #[] #[]) row) (t + 4) = .undef := by
        show ((List.replicate 59 AV.undef).getD t .undef) = .undef
        simp only [List.getD_eq_getElem?_getD, List.getElem?_replicate]
        split <;> rfl
      rw [this]
      exact trivial
  · have hbel : Below W2.heap.size W2 W3 := hR.below
    have hH3 := hH2.on hB2 hbel
    have hlt3 := lt_of_heap hT.here
    cases e with
    | exit i => exact hk'.elim
    | ret =>
      refine hQ a' W3 _ hd' hH3 ((hbel.block _ hlt3).trans hT.here) ?_
      rw [← hl, lastRow_stop (by omega) (hk'.1 rfl)]
      refine ⟨S, fun b o hs => ⟨Nat.lt_of_lt_of_le (by rw [hT.size]; exact (hS b o hs).1) hbel.size, (hS b o hs).2⟩, DR.mono (S := S) (w := W2) (fun b o hs => ⟨hs, World.cell?_of_block (hbel.block b ?_)⟩) hD2⟩
      rw [hT.size]
      exact (hS b o hs).1
    | normal =>
      unfold rx_k at hk'
      simp only at hk'
      split at hk'
      · rename_i row' hrow'
        obtain ⟨⟨ht0, htl⟩, _, hk2⟩ := hk'
        obtain ⟨hst, rfl⟩ := by simpa using hk2
        obtain ⟨S', hS1, hS2, hS3, hD3⟩ := hR.slice hrow'
        have hne1 := stop_one hst
        have hml := hR.tml
        have hv0 := hR.tm 0
        rw [ht0] at hv0
        refine ⟨⟨hd', by omega, hv0, hH3, nextRow row, k - 1, ⟨S', fun b o hs => ⟨hS3 b o hs, ?_⟩, hD3⟩, by rw [nextRow_length]; omega, by rw [nextRow_length]; omega, by rw [nextRow_length]; omega, by rw [← hl, lastRow_next (by omega) hst]⟩, ?_⟩
        · have hltL := lt_of_heap hH2.rcd
          rcases hS2 b o hs with h | h
          · exact (hS b o h).2
          · omega
        · obtain ⟨ad', cap', hsl', _⟩ := hD3
          simp only [List.cons.injEq, and_true] at hsl'
          simp only [hsl, hsl', nextRow_length]
          omega
      · exact hk'.elim
end Go.Proofs.Ytdhekhichomoiaa
end

section
namespace Go.Proofs.Ytdhekhichomoiaa
open Go Go.Pi Go.RowKit
set_option maxRecDepth 100000
set_option linter.unusedVariables false
set_option linter.unusedSimpArgs false

theorem undef_tail (l : List AV) (n t : Nat) (h : l.length ≤ t) : get (l ++ List.replicate n .undef) t = .undef := by
  simp only [Go.Pi.get, List.getD_eq_getElem?_getD, List.getElem?_append_right h, List.getElem?_replicate]
  split <;> rfl

theorem getD_args {args : Array Value} {n t : Nat} (h : t < args.size) : (args ++ Array.replicate n undef).getD t undef = args.getD t undef := by
  simp only [Array.getD_eq_getD_getElem?, Array.getElem?_append, h, if_true]

theorem rows_calls {m B0 L D b2 b3 fn : Nat} {w0 W : World} {ty2 ty3 : TypeId} {A0 : Array Value} (hA0 : 18 ≤ A0.size) (hA3 : A0.getD 3 undef = .pointer (some ⟨b3, 0, none⟩)) (hB3 : B0 ≤ b3)
    (hH : Head B0 w0 L D b3 fn ty3 A0 W) {l : List Int} {v0 : Value} (hb2 : W.heap[b2]? = some (.cells #[v0] ty2 (0, 0))) (h23 : b2 ≠ b3 ∧ b2 ≠ L) (hl : Row b3 L W l v0) (hp : 0 < l.length) (hle : l.length ≤ 1048576)
    {R : Ending → World → Prop} (hR : ∀ u W' v, Head B0 w0 L D b3 fn ty3 A0 W' → W'.heap[b3]? = some (.cells #[v] ty3 (0, 0)) → Row b3 L W' (lastRow l.length l) v → R (.returned u) W') :
    CallsIn Fence.wide m Try.prog 147 #[.func (.yield L) #[] #[], .pointer (some ⟨b2, 0, none⟩)] W R := by
  refine callsIn_of_wp Try.func147 c147_is trivial ?_
  obtain ⟨a, ha⟩ : ∃ a : Act, a = { tmps := #[.func (.yield L) #[] #[], .pointer (some ⟨b2, 0, none⟩)] ++ Array.replicate (Try.f147.ntmps - (#[.func (.yield L) #[] #[], .pointer (some ⟨b2, 0, none⟩)] : Array Value).size) undef, defers := [] } := ⟨_, rfl⟩
  rw [← ha]
  have hnt : Try.f147.ntmps = 63 := by kernel_rfl
  have hsz : a.tmps.size = 63 := by rw [ha, hnt]; simp
  have h0 : a.tmps.getD 0 undef = .func (.yield L) #[] #[] := by rw [ha]; exact getD_args (by simp)
  have h1 : a.tmps.getD 1 undef = .pointer (some ⟨b2, 0, none⟩) := by rw [ha]; exact getD_args (by simp)
  have hd : a.defers = [] := by rw [ha]
  obtain ⟨S, hS, hDR⟩ := hl
  have hlt2 := lt_of_heap hb2
  obtain ⟨lv, hcell⟩ := hH.cell
  have hB : B0 ≤ W.heap.size := by have := lt_of_heap hcell; omega
  have hc2 : W.cell? ⟨b2, 0, none⟩ = some v0 := by rw [cell_of_block hb2]; rfl
  have hv0 : Leaf v0 := DR.leaf hDR _ (by simp)
  refine wpIn_seq ((wpIn_wide (n := m)).2 (stretch progOK (EnvOK.cons f96_ok EnvOK.nil) ((r0_run (.func (.yield L) #[] #[]) l (fun r y => r = false ∧ y = l)).mpr ⟨⟨hp, by omega⟩, ⟨rfl, rfl⟩, rfl, rfl⟩)
    (S := fun b o => S b o ∨ (b = b2 ∧ o = 0)) (fun b o hs => ?_) (by rw [hsz]; exact Nat.le_refl _) (fun t => ?_) hd fun e σ' G' a' W3 hR3 hd' hk' => ?_))
  · rcases hs with h | ⟨rfl, _⟩
    · exact (hS b o h).1
    · exact hlt2
  · match t with
    | 0 => exact h0
    | 1 =>
      refine ⟨by simp, b2, 0, fun i x hx => ?_, by rw [h1]; rfl⟩
      have hi : i = 0 := by
        rcases Nat.eq_zero_or_pos i with h | h
        · exact h
        · rw [List.getElem?_eq_none (by simp; omega)] at hx; cases hx
      subst hi
      simp at hx
      subst hx
      refine ⟨[v0], DR.mono (S := S) (w := W) (fun b o hs => ⟨.inl hs, rfl⟩) hDR, fun j v hv => ?_⟩
      have hj : j = 0 := by
        rcases Nat.eq_zero_or_pos j with h | h
        · exact h
        · rw [List.getElem?_eq_none (by simp; omega)] at hv; cases hv
      subst hj
      simp at hv
      subst hv
      exact ⟨.inr ⟨rfl, by simp⟩, by simpa using hc2⟩
    | t + 2 =>
      have : get (r0_tm (.func (.yield L) #[] #[]) l) (t + 2) = .undef := undef_tail [.cst (.func (.yield L) #[] #[]), .pel sI [l] 0 0] 61 (t + 2) (by simp)
      rw [this]
      exact trivial
  · have hbel : Below W.heap.size W W3 := hR3.below
    cases e with
    | exit i => exact hk'.elim
    | ret => exact absurd hk'.1 (by simp)
    | normal =>
      unfold rx_k at hk'
      simp only at hk'
      split at hk'
      · rename_i row' hrow'
        obtain ⟨⟨ht0, htl⟩, _, rfl⟩ := hk'
        obtain ⟨S', hS1, hS2, hS3, hD3⟩ := hR3.slice hrow'
        have hml := hR3.tml
        have hv0 := hR3.tm 0
        rw [ht0] at hv0
        refine wpIn_block (rows_loop hA0 hA3 hB3 (lastRow row'.length row') hd' (by omega) hv0 (hH.on hB hbel) ⟨S', fun b o hs => ⟨hS3 b o hs, ?_⟩, hD3⟩ hp hle (Nat.le_refl _) rfl fun a4 W4 v hd4 hH4 hc4 hr4 => ?_)
        · rcases hS2 b o hs with (h | ⟨rfl, _⟩) | h
          · exact (hS b o h).2
          · exact h23
          · have := lt_of_heap hcell; have := lt_of_heap hH.rcd; omega
        · refine ⟨hd4, .tuple #[], ?_, hR _ W4 v hH4 hc4 hr4⟩
          refine results_run (vals := []) ?_
          have : Try.f147.results = #[] := by kernel_rfl
          rw [this]
          simp
      · exact hk'.elim
end Go.Proofs.Ytdhekhichomoiaa
end

section
namespace Go.Proofs.Ytdhekhichomoiaa
open Go Go.Pi Go.RowKit
set_option maxRecDepth 100000
set_option linter.unusedVariables false
set_option linter.unusedSimpArgs false

noncomputable def c92 : Code := Try.f92.body.getD .skip
noncomputable def p0 : Code := seqL c92
noncomputable def p1 : Code := seqL (seqR c92)
noncomputable def p2 : Code := seqL (seqL (seqR (seqR c92)))
def opsOf : Code → Array Oper
  | .region _ ops _ => ops
  | _ => #[]
noncomputable def o5 : Array Oper := opsOf (seqL (seqR (seqR (seqR c92))))
theorem c92_is : Try.f92.body = some (.seq p0 (.seq p1 (.seq (.seq p2 (.block 0 (.rangeFunc (.tmp 6) #[7] asg bod))) (.seq (.region 5 o5 false) .ret)))) := by kernel_rfl

def p_tm (l : List Int) : List AV := [.sl false (.int .i64) l] ++ List.replicate 17 .undef
def e_A : Anns := { loops := [], own := [] }
def p_k (l : List Int) (e : Ex) (σ : St) : Prop := e = .normal ∧ Go.Pi.get σ.tm 3 = .ptr 1049600 0 ∧ Go.Pi.get σ.tm 6 = .fn 147 [1101660160000] ∧ lk 1049600 σ.sto = some (.cells false [.nils]) ∧ lk 1101660160000 σ.sto = some (.cells false [.sl false (.int .i64) l]) ∧ σ.tm.length = 18
theorem p_run (l : List Int) : run Try.prog [] e_A (inlN Try.prog [] e_A 6) 1 (.seq p0 (.seq p1 p2)) 0 { tm := p_tm l, outs := [], sto := [], dt := [], dob := [] } (p_k l) =
    (Ex.normal = .normal ∧ AV.ptr 1049600 0 = .ptr 1049600 0 ∧ AV.fn 147 [1101660160000] = .fn 147 [1101660160000] ∧ some (Ob.cells false [.nils]) = some (.cells false [.nils]) ∧ some (Ob.cells false [.sl false (.int .i64) l]) = some (.cells false [.sl false (.int .i64) l]) ∧ (18 : Nat) = 18) := by kernel_rfl

def q_tm (l : List Int) : List AV := [.undef, .undef, .undef, .pel sI [l] 0 0] ++ List.replicate 14 .undef
def q_k (K : Bool → Prop) (e : Ex) (σ : St) : Prop := match e with
  | .normal => match Go.Pi.get σ.tm 2 with
    | .bool b => K b
    | _ => False
  | _ => False
theorem q_run (l : List Int) (K : Bool → Prop) : run Try.prog [] e_A (inlN Try.prog [] e_A 6) 1 (.region 5 o5 false) 0 { tm := q_tm l, outs := [], sto := [], dt := [], dob := [] } (q_k K) =
    (br (lenOk l.length) (br ((l.length : Int) == 1) (br (decide (0 ≤ (0 : Int)) && decide ((0 : Int) < (l.length : Int))) (K (l.getD 0 0 != 0)) False) (K false)) True) := by kernel_rfl

theorem q_t {last : List Int} {K : Bool → Prop} (h : K (last.length == 1 && last.getD 0 0 != 0)) (hb : last.length ≤ 9223372036854775807) :
    run Try.prog [] e_A (inlN Try.prog [] e_A 6) 1 (.region 5 o5 false) 0 { tm := q_tm last, outs := [], sto := [], dt := [], dob := [] } (q_k K) := by
  rw [q_run, br_true_]
  intro _
  rw [br_both]
  by_cases h1 : last.length = 1
  · refine ⟨fun _ => ?_, fun e => by simp [h1] at e⟩
    rw [br_false_]
    refine ⟨by simp [h1], ?_⟩
    simpa [h1] using h
  · refine ⟨fun e => ?_, fun _ => ?_⟩
    · simp only [beq_iff_eq] at e
      exact absurd (by omega) h1
    · have e : (last.length == 1) = false := by simpa using h1
      rw [e, Bool.false_and] at h
      exact h

theorem lastRow_length : ∀ (k : Nat) (row : List Int), (lastRow k row).length ≤ row.length
  | 0, row => Nat.le_refl _
  | k + 1, row => by
    unfold lastRow
    split
    · exact Nat.le_refl _
    · exact Nat.le_trans (lastRow_length k _) (by rw [nextRow_length]; omega)

/-- The rest of the function, behind its loop. -/
theorem rest92 {B0 D b3 L : Nat} {w w0 W : World} {ty3 : TypeId} {a : Act} {last : List Int} {v : Value} {S0 : Cells} (hB0 : B0 = w0.heap.size) (hw : w = w0) (hA0 : 18 ≤ a.tmps.size) (hA3 : a.tmps.getD 3 undef = .pointer (some ⟨b3, 0, none⟩))
    (hBD : B0 ≤ D) (hd : a.defers = [{ target := .collected D, args := #[] }]) (hbel0 : Below B0 w0 W) (hdf : W.heap[D]? = some (.deferred (some []))) (hc : W.heap[b3]? = some (.cells #[v] ty3 (0, 0))) (hr : Row b3 L W last v) (hb : last.length ≤ 1048576)
    (hS0 : ∀ b o, S0 b o → b < w.heap.size) {l : List Int} (hl : last = lastRow l.length l) :
    (Code.seq (.region 5 o5 false) .ret).wpIn Fence.wide 0 Try.prog (bodyPostM Fence.wide 0 Try.prog Try.f92 fun
      | .returned v, w' => Ret S0 w f92_e.cods (f92_e.fn l) v w' ∧ (f92_e.uq = true → RetU S0 w f92_e.cods (f92_e.fn l) v w')
      | .panicked _, _ => False
      | .outgrown, _ => False) a W := by
  obtain ⟨S, hS, hDR⟩ := hr
  have hlt := lt_of_heap hc
  have hcc : W.cell? ⟨b3, 0, none⟩ = some v := by rw [cell_of_block hc]; rfl
  refine wpIn_seq ((wpIn_wide (n := 0)).2 (stretchOps progOK EnvOK.nil (q_t (last := last) (K := fun b => b = (last.length == 1 && last.getD 0 0 != 0)) rfl (by omega)) (S := fun b o => S b o ∨ (b = b3 ∧ o = 0)) (fun b o hs => ?_) hA0 (fun t => ?_) fun σ' G' a' W3 hR3 hd' hk' => ?_))
  · rcases hs with h | ⟨rfl, _⟩
    · exact (hS b o h).1
    · exact hlt
  · match t with
    | 0 => exact trivial
    | 1 => exact trivial
    | 2 => exact trivial
    | 3 =>
      refine ⟨by simp, b3, 0, fun i x hx => ?_, by rw [hA3]; rfl⟩
      have hi : i = 0 := by
        rcases Nat.eq_zero_or_pos i with h | h
        · exact h
        · rw [List.getElem?_eq_none (by simp; omega)] at hx; cases hx
      subst hi
      simp at hx
      subst hx
      refine ⟨[v], DR.mono (S := S) (w := W) (fun b o hs => ⟨.inl hs, rfl⟩) hDR, fun j u hu => ?_⟩
      have hj : j = 0 := by
        rcases Nat.eq_zero_or_pos j with h | h
        · exact h
        · rw [List.getElem?_eq_none (by simp; omega)] at hu; cases hu
      subst hj
      simp at hu
      subst hu
      exact ⟨.inr ⟨rfl, by simp⟩, by simpa using hcc⟩
    | t + 4 =>
      have : Go.Pi.get (q_tm last) (t + 4) = .undef := undef_tail [.undef, .undef, .undef, .pel sI [last] 0 0] 14 (t + 4) (by simp)
      rw [this]
      exact trivial
  · have hbel : Below W.heap.size W W3 := hR3.below
    have hltD := lt_of_heap hdf
    have hb3' : Below B0 w0 W3 := hbel0.trans (hbel.mono (by omega))
    have hdf3 := (hbel.block _ hltD).trans hdf
    unfold q_k at hk'
    simp only at hk'
    split at hk'
    · rename_i b hb2
      have h2 := hR3.tm 2
      rw [hb2] at h2
      have h2 : a'.tmps.getD 2 undef = .bool b := h2
      refine wpIn_ret ?_
      show LeavesInM _ _ _ _ a'.tmps _ a'.defers .returning W3
      rw [hd', hd]
      refine ⟨by simp, .inl ⟨D, _, rfl, run_takeDeferred hdf3, ?_⟩⟩
      refine ⟨.bool b, results_run (vals := [.bool b]) ?_, ?_, fun e => by cases e⟩
      · have : Try.f92.results = #[.tmp 2] := by kernel_rfl
        rw [this]
        simp [resM, h2]
      · subst hw
        have hfin : Below w.heap.size w (W3.putObj D (.deferred none)) := by
          rw [← hB0]
          exact ⟨hb3'.os, hb3'.tape, hb3'.output, by rw [World.putObj_size]; exact hb3'.size, fun k hk => by
            rw [World.putObj_heap_other (by omega)]
            exact hb3'.block k hk⟩
        refine ⟨hfin, S0, fun _ _ h => h, fun _ _ h => .inl h, fun b o h => Nat.lt_of_lt_of_le (hS0 b o h) hfin.size, [.bool b], ⟨_, rfl, ?_⟩, rfl⟩
        show [Value.bool b] = [Value.bool (f92 l)]
        rw [hk', hl]
        rfl
    · exact hk'.elim

theorem calls92 {S : Cells} {w : World} {l : List Int} {v : Value} (hS : ∀ b o, S b o → b < w.heap.size) (hDR : DR S w sI l [v]) (hp : 0 < l.length) (hle : l.length ≤ 1048576) : Calls Try.prog 92 [v].toArray w fun
      | .returned v, w' => Ret S w f92_e.cods (f92_e.fn l) v w' ∧ (f92_e.uq = true → RetU S w f92_e.cods (f92_e.fn l) v w')
      | .panicked _, _ => False
      | .outgrown, _ => False := by
  refine callsIn_wide.1 (callsIn_of_wp_marks (n := 0) Try.func92 c92_is trivial ?_)
  obtain ⟨a, ha⟩ : ∃ a : Act, a = { tmps := [v].toArray ++ Array.replicate (Try.f92.ntmps - [v].toArray.size) undef, defers := [] } := ⟨_, rfl⟩
  rw [← ha]
  have hnt : Try.f92.ntmps = 18 := by kernel_rfl
  have hsz : a.tmps.size = 18 := by rw [ha, hnt]; simp
  have h0 : a.tmps.getD 0 undef = v := by rw [ha]; exact getD_args (by simp)
  have hd : a.defers = [] := by rw [ha]
  have hR : Rel w.heap.size w S { S := S, M := fun _ => none } [] { tm := p_tm l, outs := [], sto := [], dt := [], dob := [] } a w :=
    ⟨Below.refl _ _, Nat.le_refl _, fun _ _ h => h, fun _ _ h => .inl h, hS, by rw [hsz]; exact Nat.le_refl _, fun t => by
      match t with
      | 0 =>
        refine ⟨?_, fun e => by cases e⟩
        rw [h0]
        exact hDR
      | t + 1 =>
        have : Go.Pi.get (p_tm l) (t + 1) = .undef := undef_tail [.sl false (.int .i64) l] 17 (t + 1) (by simp)
        rw [this]
        exact trivial, trivial, fun o ob h => by simp [lk] at h, fun o o' ob ob' b c c' h => by simp [lk] at h⟩
  have hD0 := draw_ok (E := []) progOK EnvOK.nil
  have hI := inlN_ok (P := Try.prog) (E := []) progOK EnvOK.nil hD0 e_A 6
  have hr : run Try.prog [] e_A (inlN Try.prog [] e_A 6) 1 (.seq p0 (.seq p1 p2)) 0 { tm := p_tm l, outs := [], sto := [], dt := [], dob := [] } (p_k l) := by
    rw [p_run]
    exact ⟨rfl, rfl, rfl, rfl, rfl, rfl⟩
  simp only [run] at hr
  refine wpIn_seq ((wpIn_wide (n := 0)).2 (run_sound progOK EnvOK.nil hD0 e_A hI p0 1 0 _ _ _ a w _ hr hR hd fun e1 σ1 G1 a1 w1 _ hR1 hd1 hk1 => ?_))
  cases e1 with
  | exit i => exact absurd hk1.1 (by simp)
  | ret => exact absurd hk1.1 (by simp)
  | normal =>
  simp only at hk1
  refine wpIn_seq ((wpIn_wide (n := 0)).2 (run_sound progOK EnvOK.nil hD0 e_A hI p1 1 0 _ _ _ a1 w1 _ hk1 hR1 hd1 fun e2 σ2 G2 a2 w2 _ hR2 hd2 hk2 => ?_))
  cases e2 with
  | exit i => exact absurd hk2.1 (by simp)
  | ret => exact absurd hk2.1 (by simp)
  | normal =>
  simp only at hk2
  refine wpIn_seq (wpIn_seq ((wpIn_wide (n := 0)).2 (run_sound progOK EnvOK.nil hD0 e_A hI p2 1 0 _ _ _ a2 w2 _ hk2 hR2 hd2 fun e3 σ3 G3 a3 w3 _ hR3 hd3 hk3 => ?_)))
  obtain ⟨rfl, ht3, ht6, ho3, ho2, hlen⟩ := hk3
  have hml := hR3.tml
  -- the variable
  have hv3 := hR3.tm 3
  rw [ht3] at hv3
  obtain ⟨_, b3, c3, hM3, hv3⟩ := (hv3 : PtrR G3 (lks σ3) 1049600 0 (a3.tmps.getD 3 undef))
  obtain ⟨b3', c3', vs3, ty3, hM3', hB3, hh3, hc3, hn3⟩ := hR3.obj _ _ ho3
  rw [hM3] at hM3'
  simp only [Option.some.injEq, Prod.mk.injEq] at hM3'
  obtain ⟨rfl, rfl⟩ := hM3'
  have hvs3 : ∃ lv, vs3 = #[lv] := by
    have := hc3.length
    simp at this
    obtain ⟨x, hx⟩ := List.length_eq_one_iff.1 (show vs3.toList.length = 1 by simp; omega)
    exact ⟨x, by apply Array.ext'; simpa using hx⟩
  obtain ⟨lv, rfl⟩ := hvs3
  -- the captured variable
  have hv6 := hR3.tm 6
  rw [ht6] at hv6
  obtain ⟨caps, hv6, hcap⟩ := hv6
  obtain ⟨b2, c2, vs2, ty2, hM2, hB2, hh2, hc2, hn2⟩ := hR3.obj _ _ ho2
  have hcaps : caps = #[.pointer (some ⟨b2, 0, none⟩)] := by
    apply Array.ext'
    cases hl : caps.toList with
    | nil => rw [hl] at hcap; exact hcap.elim
    | cons x r =>
      rw [hl] at hcap
      obtain ⟨⟨_, b, c, hM, rfl⟩, hr⟩ := hcap
      rw [hM2] at hM
      simp only [Option.some.injEq, Prod.mk.injEq] at hM
      obtain ⟨rfl, rfl⟩ := hM
      cases r with
      | nil => rfl
      | cons _ _ => exact hr.elim
  subst hcaps
  have hvs2 : ∃ v0, vs2 = #[v0] ∧ DR G3.S w3 sI l [v0] := by
    cases hl : vs2.toList with
    | nil => rw [hl] at hc2; exact hc2.elim
    | cons x r =>
      rw [hl] at hc2
      obtain ⟨⟨hx, _⟩, hr⟩ := hc2
      cases r with
      | nil => exact ⟨x, by apply Array.ext'; simpa using hl, hx.1⟩
      | cons _ _ => exact hr.elim
  obtain ⟨v0, rfl, hD0'⟩ := hvs2
  have h23 : b2 ≠ b3 := fun e => by
    have := hR3.inj 1101660160000 1049600 _ _ b2 c2 c3 ho2 ho3 hM2 (e ▸ hM3)
    exact absurd this (by decide)
  have hS3 : ∀ b o, G3.S b o → b ≠ b3 := fun b o h e => by subst e; exact hn3 rfl o h
  have hlt3 := lt_of_heap hh3
  -- the loop
  refine wpIn_block (wpIn_rangeFunc fun fn _ => ?_)
  refine ⟨w3.heap.size + 1, [{ target := .collected w3.heap.size, args := #[] }], (w3.alloc (.deferred (some []))).alloc (.loop (recL fn w3.heap.size a3.tmps)), { target := .fn (.func 147) #[.pointer (some ⟨b2, 0, none⟩)], args := #[.func (.yield (w3.heap.size + 1)) #[] #[]] },
    (w3.alloc (.deferred (some []))).alloc (.loop (recL fn w3.heap.size a3.tmps)), 147, #[.func (.yield (w3.heap.size + 1)) #[] #[], .pointer (some ⟨b2, 0, none⟩)], (w3.alloc (.deferred (some []))).alloc (.loop (recL fn w3.heap.size a3.tmps)), ?_, ?_, fun _ _ => trivial, ?_, fun h => (by cases h), ?_⟩
  · exact run_enterLoop_outer _ _ _ _ _
  · have : a3.eval (.tmp 6) = .func (.func 147) #[] #[.pointer (some ⟨b2, 0, none⟩)] := hv6
    simp only [resolve, this]
    simp [go_sem]
  · have hn : Try.f147.name ≠ "runtime.NumGoroutine" := by
      have : (Try.f147.name == "runtime.NumGoroutine") = false := by kernel_rfl
      simpa using this
    have hbn : Try.f147.body ≠ none := by rw [c147_is]; simp
    have h147 : Try.prog.funcs[147]? = some Try.f147 := Try.func147
    simp [invoke, callFunc, program, Sem.run, h147, hn, hbn, Sem.bind, Sem.pure]
  · obtain ⟨W, hW⟩ : ∃ W, W = (w3.alloc (.deferred (some []))).alloc (.loop (recL fn w3.heap.size a3.tmps)) := ⟨_, rfl⟩
    rw [← hW]
    have hszW : W.heap.size = w3.heap.size + 2 := by rw [hW]; simp
    have hkeep : ∀ k, k < w3.heap.size → W.heap[k]? = w3.heap[k]? := fun k hk => by
      rw [hW, Below.heap_alloc _ _ _ (by simp; omega), Below.heap_alloc _ _ _ hk]
    have hHead : Head w.heap.size w (w3.heap.size + 1) w3.heap.size b3 fn ty3 a3.tmps W := by
      refine ⟨?_, ?_, ?_, lv, ?_⟩
      · rw [hW]
        exact (hR3.below.alloc hR3.bsz _).alloc (by simp; exact Nat.le_succ_of_le hR3.bsz) _
      · rw [hW]
        have := World.alloc_heap_new (w3.alloc (.deferred (some []))) (.loop (recL fn w3.heap.size a3.tmps))
        rwa [World.size_alloc] at this
      · rw [hW, Below.heap_alloc _ _ _ (by simp)]
        exact World.alloc_heap_new w3 _
      · rw [hkeep _ hlt3]; exact hh3
    refine rows_calls (w0 := w) (B0 := w.heap.size) (b3 := b3) (ty3 := ty3) (by omega) hv3 hB3 hHead (by rw [hkeep _ (lt_of_heap hh2)]; exact hh2) ⟨h23, by have := lt_of_heap hh2; omega⟩ ⟨G3.S, fun b o hs => ⟨by have := hR3.slt b o hs; omega, hS3 b o hs, by have := hR3.slt b o hs; omega⟩, DR.mono (S := G3.S) (w := w3) (fun b o hs => ⟨hs, World.cell?_of_block (hkeep b (hR3.slt b o hs))⟩) hD0'⟩ hp hle fun u W' v hH hc hr => ?_
    refine ⟨none, _, run_endLoop hH.rcd (by simp [recL]), ?_⟩
    have hltL := lt_of_heap hH.rcd
    have hne3 : b3 ≠ w3.heap.size + 1 := by omega
    have hltc := lt_of_heap hc
    have hbr := hR3.bsz
    refine rest92 (a := { a3 with defers := [{ target := .collected w3.heap.size, args := #[] }] ++ a3.defers }) (L := w3.heap.size + 1) (B0 := w.heap.size) (D := w3.heap.size) (b3 := b3) (w := w) (w0 := w) rfl rfl (by show 18 ≤ a3.tmps.size; omega) hv3 hbr (by show _ ++ a3.defers = _; rw [hd3]; rfl) ?_ ?_ (ty3 := ty3) (v := v) ?_ (last := lastRow l.length l) ?_ (Nat.le_trans (lastRow_length _ _) hle) hS rfl
    · exact ⟨hH.below.os, hH.below.tape, hH.below.output, by rw [World.putObj_size]; exact hH.below.size, fun k hk => by
        rw [World.putObj_heap_other (by omega)]
        exact hH.below.block k hk⟩
    · rw [World.putObj_heap_other (by omega)]
      exact hH.dfr
    · rw [World.putObj_heap_other hne3]
      exact hc
    · obtain ⟨S', hS', hD'⟩ := hr
      refine ⟨S', fun b o hs => ⟨by rw [World.putObj_size]; exact (hS' b o hs).1, (hS' b o hs).2⟩, DR.mono (S := S') (w := W') (fun b o hs => ⟨hs, World.cell?_of_block (World.putObj_heap_other (hS' b o hs).2.2)⟩) hD'⟩
theorem f92_ok : EntryOK Try.prog 92 f92_e :=
  ⟨⟨Try.f92, Try.func92, rfl⟩, fun h => (by cases h), fun S w args l hS hty hpre => by
    obtain ⟨v, rfl, hty⟩ := hty
    exact calls92 hS hty hpre.1 hpre.2⟩
end Go.Proofs.Ytdhekhichomoiaa
end

section
namespace Go.Proofs.Ytdhekhichomoiaa
open Go Go.Pi Go.RowKit
set_option maxRecDepth 100000
set_option linter.unusedVariables false
set_option linter.unusedSimpArgs false

def f93 (l : List Int) : Int := match l.find? (· != 0) with
  | some n => n
  | none => 0
def f93_e : Entry := { doms := [(false, (.sl (.int .i64)))], cods := [(false, (.int .i64))], pre := fun _ => True, fn := f93, uq := false, total := true }
def f93_E : Env := []
def f93_A : Anns := { loops := [(1048576, { tms := [(5, .keep), (6, .keep), (7, .data false (.int .i64))], obs := [], fz := [] })], own := [] }
theorem f93_run (a0 : List Int) (K : Int → Prop) : runF Try.prog f93_E f93_A 6 Try.f93 f93_e.doms f93_e.cods a0 K =
    (br (lenOk (a0.length))
    (LoopP (V := Int × Unit) (fun again v => (fun (again1 : Int → Prop) (v1_0 : Int) =>
    br (decide (v1_0 < ((a0.length) : Int)))
    (br (decide (0 ≤ v1_0) && decide (v1_0 < ((a0.length) : Int)))
    (br ((a0.getD v1_0.toNat 0) != 0)
    (K (a0.getD v1_0.toNat 0))
    (again1 (IntKind.i64.wrap (v1_0 + 1))))
    False)
    (K 0))
    (fun v1_0 => again (v1_0, ())) v.1) (0, ()))
    True) := by kernel_rfl
theorem f93_t (a0 : List Int) (K : Int → Prop) (hK : ∀ y : Int, y = f93 a0 → K y) : RunF Try.prog f93_E f93_A 6 Try.f93 f93_e.doms f93_e.cods a0 K := by
  refine ⟨?_⟩
  rw [f93_run a0 K]
  rw [br_true_, lenOk_iff]
  intro hl
  refine LoopP.up a0.length (fun i _ => ∀ x ∈ a0.take i.toNat, (x != 0) = false) (fun again i v h0 hn hI hag => ?_) (by omega) all_zero
  simp only [br_both, decide_eq_true_eq, decide_eq_false_iff_not, Bool.and_eq_true]
  refine ⟨fun hi => ⟨fun _ => ⟨fun hne => ?_, fun he => ?_⟩, fun hf => ?_⟩, fun hi => ?_⟩
  · exact hK _ (by rw [f93, find_at h0 hi hI hne])
  · rw [wr (by omega) (by omega)]
    exact hag () hi (all_step h0 hi hI he)
  · simp at hf; omega
  · exact hK _ (by rw [f93, find_none (all_done hi hI)])
theorem f93_fn : f93_e.fn = f93 := rfl
theorem f93_ok : EntryOK Try.prog 93 f93_e := by
  refine entryF progOK (EnvOK.nil) (A := f93_A) (d := 6) Try.func93 rfl rfl (fun _ _ => trivial) fun x hpre => ?_
  exact f93_t x _ fun _ h => h.trans (congrFun f93_fn.symm _)
theorem f93_nil : f93 [] = 0 := rfl
theorem f93_cons (a : Int) (l : List Int) : f93 (a :: l) = if a = 0 then f93 l else a := by
  by_cases h : a = 0 <;> simp [f93, h]
end Go.Proofs.Ytdhekhichomoiaa
end

section
namespace Go.Proofs.Ytdhekhichomoiaa
open Go Go.Pi Go.RowKit
set_option maxRecDepth 100000
set_option linter.unusedVariables false
set_option linter.unusedSimpArgs false

def f94 (x : Bool × Int) : Int := if x.1 then 0 else x.2
def f94_e : Entry := { doms := [(false, .bool), (false, (.int .i64))], cods := [(false, (.int .i64))], pre := fun _ => True, fn := f94, uq := false, total := true }
def f94_E : Env := []
def f94_A : Anns := { loops := [], own := [] }
theorem f94_run (a0 : Bool) (a1 : Int) (K : Int → Prop) : runF Try.prog f94_E f94_A 6 Try.f94 f94_e.doms f94_e.cods (a0, a1) K =
    (br a0
    (K 0)
    (K a1)) := by kernel_rfl
theorem f94_t (a0 : Bool) (a1 : Int) (K : Int → Prop) (hK : ∀ y : Int, y = f94 (a0, a1) → K y) : RunF Try.prog f94_E f94_A 6 Try.f94 f94_e.doms f94_e.cods (a0, a1) K := by
  refine ⟨?_⟩
  rw [f94_run a0 a1 K]
  cases a0 <;> exact hK _ rfl
theorem f94_fn : f94_e.fn = f94 := rfl
theorem f94_ok : EntryOK Try.prog 94 f94_e := by
  refine entryF progOK (EnvOK.nil) (A := f94_A) (d := 6) Try.func94 rfl rfl (fun _ _ => trivial) fun x hpre => ?_
  obtain ⟨a0, a1⟩ := x
  exact f94_t a0 a1 _ fun _ h => h.trans (congrFun f94_fn.symm _)
end Go.Proofs.Ytdhekhichomoiaa
end

section
namespace Go.Proofs.Ytdhekhichomoiaa
open Go Go.Pi Go.RowKit
set_option maxRecDepth 100000
set_option linter.unusedVariables false
set_option linter.unusedSimpArgs false

def f95 (x : Int × Int × Int) : Bool := decide (x.2.1 ≤ x.1) && decide (x.1 ≤ x.2.2)
def f95_e : Entry := { doms := [(false, (.int .i64)), (false, (.int .i64)), (false, (.int .i64))], cods := [(false, .bool)], pre := fun _ => True, fn := f95, uq := false, total := true }
def f95_E : Env := []
def f95_A : Anns := { loops := [], own := [] }
theorem f95_run (a0 : Int) (a1 : Int) (a2 : Int) (K : Bool → Prop) : runF Try.prog f95_E f95_A 6 Try.f95 f95_e.doms f95_e.cods (a0, a1, a2) K =
    (br (decide (a1 ≤ a0))
    (K (decide (a0 ≤ a2)))
    (K false)) := by kernel_rfl
theorem f95_t (a0 : Int) (a1 : Int) (a2 : Int) (K : Bool → Prop) (hK : ∀ y : Bool, y = f95 (a0, a1, a2) → K y) : RunF Try.prog f95_E f95_A 6 Try.f95 f95_e.doms f95_e.cods (a0, a1, a2) K := by
  refine ⟨?_⟩
  rw [f95_run a0 a1 a2 K]
  rw [br_dec]
  exact ⟨fun h => hK _ (by simp [f95, h]), fun h => hK _ (by simp [f95, h])⟩
theorem f95_fn : f95_e.fn = f95 := rfl
theorem f95_ok : EntryOK Try.prog 95 f95_e := by
  refine entryF progOK (EnvOK.nil) (A := f95_A) (d := 6) Try.func95 rfl rfl (fun _ _ => trivial) fun x hpre => ?_
  obtain ⟨a0, a1, a2⟩ := x
  exact f95_t a0 a1 a2 _ fun _ h => h.trans (congrFun f95_fn.symm _)
end Go.Proofs.Ytdhekhichomoiaa
end

section
namespace Go.Proofs.Ytdhekhichomoiaa
open Go Go.Pi Go.RowKit
set_option maxRecDepth 100000
set_option linter.unusedVariables false
set_option linter.unusedSimpArgs false

def szd (n most : Int) : Bool := decide (-most ≤ n) && decide (n ≤ most)
def f103 (x : Int × Int) : Bool := szd x.1 1000 && szd x.2 1000
def f103_e : Entry := { doms := [(true, (.pair (.int .i64) (.int .i64)))], cods := [(false, .bool)], pre := fun _ => True, fn := f103, uq := false, total := true }
def f103_E : Env := [(95, f95_e)]
def f103_A : Anns := { loops := [], own := [] }
theorem f103_run (a0 : Int × Int) (K : Bool → Prop) : runF Try.prog f103_E f103_A 6 Try.f103 f103_e.doms f103_e.cods a0 K =
    (br (f95 (a0.1, ((-1000), 1000)))
    (K (f95 (a0.2, ((-1000), 1000))))
    (K false)) := by kernel_rfl
theorem f103_t (a0 : Int × Int) (K : Bool → Prop) (hK : ∀ y : Bool, y = f103 a0 → K y) : RunF Try.prog f103_E f103_A 6 Try.f103 f103_e.doms f103_e.cods a0 K := by
  refine ⟨?_⟩
  rw [f103_run a0 K]
  rw [br_both]
  exact ⟨fun h => hK _ (by simp [f103, szd, f95] at h ⊢; simp [h]), fun h => hK _ (by simp [f103, szd, f95] at h ⊢; omega)⟩
theorem f103_fn : f103_e.fn = f103 := rfl
theorem f103_ok : EntryOK Try.prog 103 f103_e := by
  refine entryF progOK (EnvOK.cons f95_ok (EnvOK.nil)) (A := f103_A) (d := 6) Try.func103 rfl rfl (fun _ _ => trivial) fun x hpre => ?_
  exact f103_t x _ fun _ h => h.trans (congrFun f103_fn.symm _)
end Go.Proofs.Ytdhekhichomoiaa
end
