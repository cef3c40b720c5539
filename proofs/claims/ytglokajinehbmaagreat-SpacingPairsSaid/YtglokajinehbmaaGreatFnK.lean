/- What functions of the program compute, each proved once, part 11. -/
import Derived.Test.YtglokajinehbmaaGreatPiD
import Derived.Test.YtglokajinehbmaaGreatFnA
import Derived.Test.YtglokajinehbmaaGreatFnB
import Derived.Test.YtglokajinehbmaaGreatFnE
import Derived.Test.YtglokajinehbmaaGreatFnG

section
namespace Go.Proofs.YtglokajinehbmaaGreat
open Go Go.Pi Go.RowKit
set_option maxRecDepth 100000
set_option linter.unusedVariables false
set_option linter.unusedSimpArgs false

def f69 (x : ((List (List Int) × List (List Int)) × List (ByteArray × Int × Int × Int × Int) × List Int) × List (Int × Int)) : Int := costF x.1 x.2
def f69_pre (x : ((List (List Int) × List (List Int)) × List (ByteArray × Int × Int × Int × Int) × List Int) × List (Int × Int)) : Prop := okP x.1 ∧ (∀ s ∈ x.2, slotV x.1 s) ∧ x.2.length ≤ 1000
def f69_e : Entry := { doms := [(true, (.pair (.pair (.sl (.sl (.int .i64))) (.sl (.sl (.int .i64)))) (.pair (.sl (.pair .str (.pair (.int .i64) (.pair (.int .i64) (.pair (.int .i64) (.int .i64)))))) (.sl (.int .i64))))), (false, (.sl (.pair (.int .i64) (.int .i64))))], cods := [(false, (.int .i64))], pre := f69_pre, fn := f69, uq := false, total := false }
def f69_E : Env := [(71, f71_e)]
def f69_A : Anns := { loops := [(1048576, { tms := [(1, .keep), (2, .keep), (5, .data false (.int .i64)), (6, .data false (.int .i64))], obs := [(1048576, .keep)], fz := [] })], own := [] }
theorem f69_run (a0 : (List (List Int) × List (List Int)) × List (ByteArray × Int × Int × Int × Int) × List Int) (a1 : List (Int × Int)) (K : Int → Prop) : runF Tryz.prog f69_E f69_A 6 Tryz.f69 f69_e.doms f69_e.cods (a0, a1) K =
    (LoopP (V := Int × Int × Unit) (fun again v => (fun (again1 : Int → Int → Prop) (v1_0 : Int) (v1_1 : Int) =>
    br (lenOk (a1.length))
    (br (decide (v1_1 < ((a1.length) : Int)))
    (br (decide (0 ≤ v1_1) && decide (v1_1 < ((a1.length) : Int)))
    (br (decide (0 ≤ (a1.getD v1_1.toNat (0, 0)).1) && decide ((a1.getD v1_1.toNat (0, 0)).1 < ((a0.2.1.length) : Int)))
    (br (decide (0 ≤ v1_1) && decide (v1_1 < ((a1.length) : Int)))
    (again1 (IntKind.i64.wrap (v1_0 + (IntKind.i64.wrap (((((a0.2.1.getD (((a1.getD v1_1.toNat (0, 0)).1).toNat) ((⟨#[]⟩ : ByteArray), (0, (0, (0, 0))))).2).2).2).2 * (IntKind.i64.wrap ((a1.getD v1_1.toNat (0, 0)).2 - (((a0.2.1.getD (((a1.getD v1_1.toNat (0, 0)).1).toNat) ((⟨#[]⟩ : ByteArray), (0, (0, (0, 0))))).2).2).1)))))) (IntKind.i64.wrap (v1_1 + 1)))
    False)
    False)
    False)
    (K v1_0))
    True)
    (fun v1_0 v1_1 => again (v1_0, v1_1, ())) v.1 v.2.1) (0, 0, ())) := by kernel_rfl
theorem f69_t (a0 : (List (List Int) × List (List Int)) × List (ByteArray × Int × Int × Int × Int) × List Int) (a1 : List (Int × Int)) (hpre : f69_pre (a0, a1)) (K : Int → Prop) (hK : ∀ y : Int, y = f69 (a0, a1) → K y) : RunF Tryz.prog f69_E f69_A 6 Tryz.f69 f69_e.doms f69_e.cods (a0, a1) K := by
  refine ⟨?_⟩
  rw [f69_run a0 a1 K]
  obtain ⟨h, hs, h3⟩ := hpre
  simp only at h hs h3
  have hv := h.v
  have hd : ((⟨#[]⟩ : ByteArray), ((0 : Int), ((0 : Int), ((0 : Int), (0 : Int))))) = arrD := rfl
  simp only [hd]
  refine LoopP.of (fun q : Int × Int × Unit => ∃ i : Nat, i ≤ a1.length ∧ q.2.1 = (i : Int) ∧ q.1 = costF a0 (a1.take i)) (fun q => ((a1.length : Int) - q.2.1).toNat) (fun again q hq hag => ?_) ⟨0, by omega, rfl, rfl⟩
  obtain ⟨t, j, u⟩ := q
  obtain ⟨i, hi, e1, e2⟩ := hq
  simp only at e1 e2
  subst e1 e2
  dsimp only
  rw [br_true_, lenOk_iff]
  intro _
  rw [br_dec]
  refine ⟨fun hlt => ?_, fun hlt => hK _ ?_⟩
  · have hlt : i < a1.length := by omega
    have b0 : (decide (0 ≤ (i : Int)) && decide ((i : Int) < (a1.length : Int))) = true := inb (by omega) (by omega)
    rw [b0]
    simp only [Int.toNat_natCast, br_t]
    have hm := hs (a1.getD i (0, 0)) (by rw [getD_lt hlt]; exact List.getElem_mem _)
    have hc1 := cost1_in hv hm
    have hc := costF_in hv hs i hi
    have hst := costF_take a0 a1 hlt
    obtain ⟨⟨s1, s2⟩, s3, s4⟩ := hm
    obtain ⟨⟨_, b, _⟩, _⟩ := hv.arr (a1.getD i (0, 0)).1.toNat (by omega)
    have be := b.2.1
    rw [br_false_]
    refine ⟨inb s1 s2, ?_⟩
    generalize (a1.getD i (0, 0)) = s at *
    rw [wr (n := s.2 - (a0.2.1.getD s.1.toNat arrD).2.2.1) (by omega) (by omega)]
    rw [wr (n := (a0.2.1.getD s.1.toNat arrD).2.2.2.2 * (s.2 - (a0.2.1.getD s.1.toNat arrD).2.2.1)) (by omega) (by omega), wr (n := costF a0 (a1.take i) + _) (by omega) (by omega), wr (n := (i : Int) + 1) (by omega) (by omega)]
    exact hag (_, _, ()) ⟨i + 1, by omega, by simp only; omega, hst.symm⟩ (by simp only; omega)
  · rw [f69, List.take_of_length_le (by omega)]
theorem f69_fn : f69_e.fn = f69 := rfl
theorem f69_ok : EntryOK Tryz.prog 69 f69_e := by
  refine entryF progOK (EnvOK.cons f71_ok (EnvOK.nil)) (A := f69_A) (d := 6) Tryz.func69 rfl rfl rfl rfl (fun h => by cases h) fun x hpre => ?_
  obtain ⟨a0, a1⟩ := x
  exact f69_t a0 a1 hpre _ fun _ h => h.trans (congrFun f69_fn.symm _)
end Go.Proofs.YtglokajinehbmaaGreat
end

section
namespace Go.Proofs.YtglokajinehbmaaGreat
open Go Go.Pi Go.RowKit
set_option maxRecDepth 100000
set_option linter.unusedVariables false
set_option linter.unusedSimpArgs false

def f51 (x : ((List (List Int) × List (List Int)) × List (ByteArray × Int × Int × Int × Int) × List Int) × Int × Int) : Int × Bool := match pairB x.1 x.2.1 x.2.2 with
  | some n => (n, true)
  | none => (0, false)
def f51_pre (x : ((List (List Int) × List (List Int)) × List (ByteArray × Int × Int × Int × Int) × List Int) × Int × Int) : Prop := okP x.1 ∧ inA x.1 x.2.1 ∧ inA x.1 x.2.2
def f51_e : Entry := { doms := [(true, (.pair (.pair (.sl (.sl (.int .i64))) (.sl (.sl (.int .i64)))) (.pair (.sl (.pair .str (.pair (.int .i64) (.pair (.int .i64) (.pair (.int .i64) (.int .i64)))))) (.sl (.int .i64))))), (false, (.int .i64)), (false, (.int .i64))], cods := [(false, (.int .i64)), (false, .bool)], pre := f51_pre, fn := f51, uq := false, total := false }
def f51_E : Env := [(68, f68_e), (69, f69_e)]
def f51_A : Anns := { loops := [], own := [] }
theorem f51_run (a0 : (List (List Int) × List (List Int)) × List (ByteArray × Int × Int × Int × Int) × List Int) (a1 : Int) (a2 : Int) (K : (Int × Bool) → Prop) : runF Tryz.prog f51_E f51_A 6 Tryz.f51 f51_e.doms f51_e.cods (a0, a1, a2) K =
    (f68_pre (a0, (([] : List (Int × Int)), ([a1, a2] : List Int))) ∧
    f68_pre (a0, (([] : List (Int × Int)), ([a2, a1] : List Int))) ∧
    br (f68 (a0, (([] : List (Int × Int)), ([a1, a2] : List Int)))).2
    (br (f68 (a0, (([] : List (Int × Int)), ([a2, a1] : List Int)))).2
    (f69_pre (a0, (f68 (a0, (([] : List (Int × Int)), ([a1, a2] : List Int)))).1) ∧
    f69_pre (a0, (f68 (a0, (([] : List (Int × Int)), ([a2, a1] : List Int)))).1) ∧
    K ((minmax false (f69 (a0, (f68 (a0, (([] : List (Int × Int)), ([a1, a2] : List Int)))).1)) (f69 (a0, (f68 (a0, (([] : List (Int × Int)), ([a2, a1] : List Int)))).1))), true))
    (br (f68 (a0, (([] : List (Int × Int)), ([a1, a2] : List Int)))).2
    (f69_pre (a0, (f68 (a0, (([] : List (Int × Int)), ([a1, a2] : List Int)))).1) ∧
    K ((f69 (a0, (f68 (a0, (([] : List (Int × Int)), ([a1, a2] : List Int)))).1)), true))
    (br (f68 (a0, (([] : List (Int × Int)), ([a2, a1] : List Int)))).2
    (f69_pre (a0, (f68 (a0, (([] : List (Int × Int)), ([a2, a1] : List Int)))).1) ∧
    K ((f69 (a0, (f68 (a0, (([] : List (Int × Int)), ([a2, a1] : List Int)))).1)), true))
    (K (0, false)))))
    (br (f68 (a0, (([] : List (Int × Int)), ([a1, a2] : List Int)))).2
    (f69_pre (a0, (f68 (a0, (([] : List (Int × Int)), ([a1, a2] : List Int)))).1) ∧
    K ((f69 (a0, (f68 (a0, (([] : List (Int × Int)), ([a1, a2] : List Int)))).1)), true))
    (br (f68 (a0, (([] : List (Int × Int)), ([a2, a1] : List Int)))).2
    (f69_pre (a0, (f68 (a0, (([] : List (Int × Int)), ([a2, a1] : List Int)))).1) ∧
    K ((f69 (a0, (f68 (a0, (([] : List (Int × Int)), ([a2, a1] : List Int)))).1)), true))
    (K (0, false))))) := by kernel_rfl
theorem f51_t (a0 : (List (List Int) × List (List Int)) × List (ByteArray × Int × Int × Int × Int) × List Int) (a1 : Int) (a2 : Int) (hpre : f51_pre (a0, a1, a2)) (K : (Int × Bool) → Prop) (hK : ∀ y : Int × Bool, y = f51 (a0, a1, a2) → K y) : RunF Tryz.prog f51_E f51_A 6 Tryz.f51 f51_e.doms f51_e.cods (a0, a1, a2) K := by
  refine ⟨?_⟩
  rw [f51_run a0 a1 a2 K]
  obtain ⟨hok, ha, hb⟩ := hpre
  simp only at hok ha hb
  have hv := hok.v
  have e68 : ∀ o, f68 (a0, [], o) = contF a0 [] o := fun o => rfl
  have e69 : ∀ l, f69 (a0, l) = costF a0 l := fun l => rfl
  have hin : ∀ x y : Int, inA a0 x → inA a0 y → ∀ z ∈ [x, y], inA a0 z := fun x y hx hy z hz => by
    rcases List.mem_cons.1 hz with rfl | hz
    · exact hx
    · simp only [List.mem_singleton] at hz
      rw [hz]; exact hy
  have p68 : ∀ x y : Int, inA a0 x → inA a0 y → f68_pre (a0, [], [x, y]) := fun x y hx hy => ⟨hok, ⟨fun s hs => (by cases hs), Nat.zero_le _⟩, hin x y hx hy, by simp⟩
  have p69 : ∀ x y l, inA a0 x → inA a0 y → contL a0 [] [x, y] = some l → f69_pre (a0, l) := fun x y l hx hy hl => by
    obtain ⟨v1, v2⟩ := contL_ok hv [x, y] [] (fun s hs => (by cases hs)) (hin x y hx hy) l hl
    exact ⟨hok, v1, by simp at v2; show l.length ≤ 1000; omega⟩
  have ef : f51 (a0, a1, a2) = match pairB a0 a1 a2 with
    | some n => (n, true)
    | none => (0, false) := rfl
  rw [ef, pairB] at hK
  refine ⟨p68 _ _ ha hb, p68 _ _ hb ha, ?_⟩
  simp only [e68, e69]
  unfold contF
  have h1 := p69 a1 a2
  have h2 := p69 a2 a1
  cases c1 : contL a0 [] [a1, a2] with
  | none =>
    rw [c1] at hK
    cases c2 : contL a0 [] [a2, a1] with
    | none =>
      rw [c2] at hK
      exact hK _ rfl
    | some y =>
      rw [c2] at hK
      exact ⟨h2 y hb ha c2, hK _ rfl⟩
  | some x =>
    rw [c1] at hK
    cases c2 : contL a0 [] [a2, a1] with
    | none =>
      rw [c2] at hK
      exact ⟨h1 x ha hb c1, hK _ rfl⟩
    | some y =>
      rw [c2] at hK
      refine ⟨h1 x ha hb c1, h2 y hb ha c2, hK _ ?_⟩
      have : minmax false (costF a0 x) (costF a0 y) = min (costF a0 x) (costF a0 y) := by
        unfold minmax
        simp only [Bool.false_eq_true, if_false]
        split <;> omega
      rw [this]
theorem f51_fn : f51_e.fn = f51 := rfl
theorem f51_ok : EntryOK Tryz.prog 51 f51_e := by
  refine entryF progOK (EnvOK.cons f68_ok (EnvOK.cons f69_ok (EnvOK.nil))) (A := f51_A) (d := 6) Tryz.func51 rfl rfl rfl rfl (fun h => by cases h) fun x hpre => ?_
  obtain ⟨a0, a1, a2⟩ := x
  exact f51_t a0 a1 a2 hpre _ fun _ h => h.trans (congrFun f51_fn.symm _)
end Go.Proofs.YtglokajinehbmaaGreat
end
