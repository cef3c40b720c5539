/- What functions of the program compute, each proved once, part 5. -/
import Derived.Test.YtglokajinehbmaaPiD
import Derived.Test.YtglokajinehbmaaFnA
import Derived.Test.YtglokajinehbmaaFnD
import Derived.Test.YtglokajinehbmaaFnB

section
namespace Go.Proofs.Ytglokajinehbmaa
open Go Go.Pi Go.RowKit
set_option maxRecDepth 100000
set_option linter.unusedVariables false
set_option linter.unusedSimpArgs false

theorem two_errs (a b : Bool) : f66 [f68 (a, 6), f68 (b, 9)] = if a = false then 6 else if b = false then 9 else 0 := by
  cases a <;> cases b <;> rfl
def f24 (p : (List (List Int) × List (List Int)) × List (ByteArray × Int × Int × Int × Int) × List Int) : Int × Int := probOf p
def f24_pre (p : (List (List Int) × List (List Int)) × List (ByteArray × Int × Int × Int × Int) × List Int) : Prop := f22_pre p.2.1
def f24_e : Entry := { doms := [(true, (.pair (.pair (.sl (.sl (.int .i64))) (.sl (.sl (.int .i64)))) (.pair (.sl (.pair .str (.pair (.int .i64) (.pair (.int .i64) (.pair (.int .i64) (.int .i64)))))) (.sl (.int .i64)))))], cods := [(false, (.int .i64)), (false, (.int .i64))], pre := f24_pre, fn := f24, uq := false, total := false }
def f24_E : Env := [(22, f22_e), (28, f28_e), (65, f65_e), (66, f66_e), (68, f68_e), (27, f27_e), (26, f26_e), (30, f30_e)]
def f24_A : Anns := { loops := [(1107030966272, { tms := [(1, .keep), (9, .keep), (10, .keep), (11, .data false (.int .i64))], obs := [(1048576, .keep)], fz := [] }),
  (1111325933568, { tms := [(1, .keep), (9, .keep), (10, .keep), (11, .data false (.int .i64))], obs := [(1048576, .keep), (1058816, .cells [.data (.int .i64)])], fz := [] })], own := [] }
theorem f24_run (a0 : (List (List Int) × List (List Int)) × List (ByteArray × Int × Int × Int × Int) × List Int) (K : (Int × Int) → Prop) : runF Try.prog f24_E f24_A 6 Try.f24 f24_e.doms f24_e.cods a0 K =
    (br ((f28 a0.1).2 != 0)
    (K (f28 a0.1))
    (f22_pre a0.2.1 ∧
    br ((f22 a0.2.1).2 != 0)
    (K (f22 a0.2.1))
    (br (lenOk (a0.2.1.length))
    (LoopP (V := Int × Unit) (fun again v => (fun (again1 : Int → Prop) (v1_0 : Int) =>
    br (decide (v1_0 < ((a0.2.1.length) : Int)))
    (br (decide (0 ≤ v1_0) && decide (v1_0 < ((a0.2.1.length) : Int)))
    (br (lenOk (a0.1.1.length))
    (br ((f68 ((decide (((a0.2.1.getD v1_0.toNat ((⟨#[]⟩ : ByteArray), (0, (0, (0, 0))))).2).1 < ((a0.1.1.length) : Int))), 6)) != 0)
    (br ((f68 ((decide (((a0.2.1.getD v1_0.toNat ((⟨#[]⟩ : ByteArray), (0, (0, (0, 0))))).2).1 < ((a0.1.1.length) : Int))), 6)) != 0)
    (K (v1_0, (f68 ((decide (((a0.2.1.getD v1_0.toNat ((⟨#[]⟩ : ByteArray), (0, (0, (0, 0))))).2).1 < ((a0.1.1.length) : Int))), 6))))
    (br (lenOk (a0.2.2.length))
    (LoopP (V := Int × Int × Unit) (fun again v => (fun (again2 : Int → Int → Prop) (v2_0 : Int) (v2_1 : Int) =>
    br (decide (v2_0 < ((a0.2.2.length) : Int)))
    (br (decide (0 ≤ v2_0) && decide (v2_0 < ((a0.2.2.length) : Int)))
    (br (lenOk (a0.2.1.length))
    (br ((f66 ([(f68 ((f65 ((a0.2.2.getD v2_0.toNat 0), (0, (IntKind.i64.wrap (((a0.2.1.length) : Int) - 1))))), 6)), (f68 ((decide ((a0.2.2.getD v2_0.toNat 0) > v2_1)), 9))] : List Int)) != 0)
    (K (v2_0, (f66 ([(f68 ((f65 ((a0.2.2.getD v2_0.toNat 0), (0, (IntKind.i64.wrap (((a0.2.1.length) : Int) - 1))))), 6)), (f68 ((decide ((a0.2.2.getD v2_0.toNat 0) > v2_1)), 9))] : List Int))))
    (again2 (IntKind.i64.wrap (v2_0 + 1)) (a0.2.2.getD v2_0.toNat 0)))
    True)
    False)
    (K (0, 0)))
    (fun v2_0 v2_1 => again (v2_0, v2_1, ())) v.1 v.2.1) (0, (-1), ()))
    True))
    (again1 (IntKind.i64.wrap (v1_0 + 1))))
    True)
    False)
    (br (lenOk (a0.2.2.length))
    (LoopP (V := Int × Int × Unit) (fun again v => (fun (again3 : Int → Int → Prop) (v3_0 : Int) (v3_1 : Int) =>
    br (decide (v3_0 < ((a0.2.2.length) : Int)))
    (br (decide (0 ≤ v3_0) && decide (v3_0 < ((a0.2.2.length) : Int)))
    (br (lenOk (a0.2.1.length))
    (br ((f66 ([(f68 ((f65 ((a0.2.2.getD v3_0.toNat 0), (0, (IntKind.i64.wrap (((a0.2.1.length) : Int) - 1))))), 6)), (f68 ((decide ((a0.2.2.getD v3_0.toNat 0) > v3_1)), 9))] : List Int)) != 0)
    (K (v3_0, (f66 ([(f68 ((f65 ((a0.2.2.getD v3_0.toNat 0), (0, (IntKind.i64.wrap (((a0.2.1.length) : Int) - 1))))), 6)), (f68 ((decide ((a0.2.2.getD v3_0.toNat 0) > v3_1)), 9))] : List Int))))
    (again3 (IntKind.i64.wrap (v3_0 + 1)) (a0.2.2.getD v3_0.toNat 0)))
    True)
    False)
    (K (0, 0)))
    (fun v3_0 v3_1 => again (v3_0, v3_1, ())) v.1 v.2.1) (0, (-1), ()))
    True))
    (fun v1_0 => again (v1_0, ())) v.1) (0, ()))
    True))) := by kernel_rfl
theorem f24_t (a0 : (List (List Int) × List (List Int)) × List (ByteArray × Int × Int × Int × Int) × List Int) (hpre : f24_pre a0) (K : (Int × Int) → Prop) (hK : ∀ y : Int × Int, y = f24 a0 → K y) : RunF Try.prog f24_E f24_A 6 Try.f24 f24_e.doms f24_e.cods a0 K := by
  refine ⟨?_⟩
  rw [f24_run a0 K]
  have hd : ((⟨#[]⟩ : ByteArray), ((0 : Int), ((0 : Int), ((0 : Int), (0 : Int))))) = arrD := rfl
  have e28 : f28 a0.1 = ruleOf a0.1 := rfl
  have e22 : f22 a0.2.1 = arrOf a0.2.1 := rfl
  simp only [hd, e28, e22]
  rw [br_both]
  refine ⟨fun h => hK _ ?_, fun h => ⟨hpre, ?_⟩⟩
  · rw [f24, probOf, if_pos (by simpa using h)]
  have n1 : ¬ (ruleOf a0.1).2 ≠ 0 := by simpa using h
  rw [br_both]
  refine ⟨fun h => hK _ ?_, fun h => ?_⟩
  · rw [f24, probOf, if_neg n1, if_pos (by simpa using h)]
  have n2 : ¬ (arrOf a0.2.1).2 ≠ 0 := by simpa using h
  obtain ⟨a6, aV⟩ := arrOf_zero (show (arrOf a0.2.1).2 = 0 by omega)
  rw [br_true_]
  intro _
  refine each_walk (n := a0.2.1.length) (e := catE a0) (fun again i hi hI good => ?_)
  dsimp only
  rw [br_dec]
  refine ⟨fun h1 => ?_, fun h1 => ?_⟩
  · have hlt : i < a0.2.1.length := by omega
    rw [br_false_]
    refine ⟨inb (by omega) h1, ?_⟩
    simp only [Int.toNat_natCast]
    rw [br_true_]
    intro _
    by_cases hc : (a0.2.1.getD i arrD).2.1 < (a0.1.1.length : Int)
    · rw [decide_eq_true hc]
      show again _
      rw [wr (n := (i : Int) + 1) (by omega) (by omega)]
      exact good hlt (by rw [catE, if_pos hc])
    · rw [decide_eq_false hc]
      have he : catE a0 i = 6 := by rw [catE, if_neg hc]
      have := eachE_some hlt hI (show catE a0 i ≠ 0 by rw [he]; decide)
      refine hK _ ?_
      rw [f24, probOf, if_neg n1, if_neg n2, this, he]
      rfl
  · have hz := eachE_none (n := a0.2.1.length) fun j hj => hI j (by omega)
    have n3 : ¬ (eachE a0.2.1.length (catE a0)).2 ≠ 0 := by rw [hz]; simp
    have e24 : f24 a0 = eachE a0.2.2.length (freeE a0) := by rw [f24, probOf, if_neg n1, if_neg n2, if_neg n3]
    rw [br_true_, lenOk_iff]
    intro hlf
    refine LoopP.of (fun q : Int × Int × Unit => ∃ j : Nat, j ≤ a0.2.2.length ∧ q.1 = (j : Int) ∧ q.2.1 = (if j = 0 then -1 else a0.2.2.getD (j - 1) 0) ∧ ∀ k, k < j → freeE a0 k = 0) (fun q => ((a0.2.2.length : Int) - q.1).toNat) (fun again2 q hq hag2 => ?_) ⟨0, by omega, rfl, rfl, fun k hk => by omega⟩
    obtain ⟨jj, last, u⟩ := q
    obtain ⟨j, hj, e1, e2, hJ⟩ := hq
    simp only at e1 e2
    subst e1 e2
    dsimp only
    rw [br_dec]
    refine ⟨fun h2 => ?_, fun h2 => hK _ ?_⟩
    · have hlt : j < a0.2.2.length := by omega
      rw [br_false_]
      refine ⟨inb (by omega) h2, ?_⟩
      simp only [Int.toNat_natCast]
      rw [br_true_, lenOk_iff]
      intro _
      rw [wr (n := (a0.2.1.length : Int) - 1) (by omega) (by omega)]
      have hX : f66 [f68 (f65 (a0.2.2.getD j 0, 0, (a0.2.1.length : Int) - 1), 6), f68 (decide (a0.2.2.getD j 0 > if j = 0 then -1 else a0.2.2.getD (j - 1) 0), 9)] = freeE a0 j := by
        rw [two_errs, freeE]
        by_cases h3 : 0 ≤ a0.2.2.getD j 0 ∧ a0.2.2.getD j 0 ≤ (a0.2.1.length : Int) - 1
        · rw [f65_t1.2 h3, if_neg (show ¬ (true = false) by decide), if_neg (fun hh : ¬ (0 ≤ a0.2.2.getD j 0 ∧ a0.2.2.getD j 0 ≤ (a0.2.1.length : Int) - 1) => hh h3)]
          by_cases h4 : j = 0
          · have h5 : a0.2.2.getD j 0 > -1 := by omega
            rw [if_pos h4, decide_eq_true h5, if_neg (show ¬ (true = false) by decide), if_neg (show ¬ (0 < j ∧ a0.2.2.getD j 0 ≤ a0.2.2.getD (j - 1) 0) by omega)]
          · rw [if_neg h4]
            by_cases h5 : a0.2.2.getD j 0 > a0.2.2.getD (j - 1) 0
            · rw [decide_eq_true h5, if_neg (show ¬ (true = false) by decide), if_neg (show ¬ (0 < j ∧ a0.2.2.getD j 0 ≤ a0.2.2.getD (j - 1) 0) by omega)]
            · rw [decide_eq_false h5, if_pos rfl, if_pos (show 0 < j ∧ a0.2.2.getD j 0 ≤ a0.2.2.getD (j - 1) 0 by omega)]
        · rw [f65_f1.2 h3, if_pos rfl, if_pos h3]
      rw [hX, br_both]
      refine ⟨fun h3 => ?_, fun h3 => ?_⟩
      · have h3 : freeE a0 j ≠ 0 := by simpa using h3
        refine hK _ ?_
        rw [e24, eachE_some hlt hJ h3]
      · have h3 : freeE a0 j = 0 := by simpa using h3
        rw [wr (n := (j : Int) + 1) (by omega) (by omega)]
        refine hag2 (_, _, ()) ⟨j + 1, by omega, by simp only; omega, by simp, fun k hk => ?_⟩ (by simp only; omega)
        by_cases hkj : k = j
        · rw [hkj]; exact h3
        · exact hJ k (by omega)
    · rw [e24, eachE_none fun k hk => hJ k (by omega)]
theorem f24_fn : f24_e.fn = f24 := rfl
theorem f24_ok : EntryOK Try.prog 24 f24_e := by
  refine entryF progOK (EnvOK.cons f22_ok (EnvOK.cons f28_ok (EnvOK.cons f65_ok (EnvOK.cons f66_ok (EnvOK.cons f68_ok (EnvOK.cons f27_ok (EnvOK.cons f26_ok (EnvOK.cons f30_ok (EnvOK.nil))))))))) (A := f24_A) (d := 6) Try.func24 rfl rfl rfl rfl (fun h => by cases h) fun x hpre => ?_
  exact f24_t x hpre _ fun _ h => h.trans (congrFun f24_fn.symm _)
end Go.Proofs.Ytglokajinehbmaa
end

section
namespace Go.Proofs.Ytglokajinehbmaa
open Go Go.Pi Go.RowKit
set_option maxRecDepth 100000
set_option linter.unusedVariables false
set_option linter.unusedSimpArgs false

def contL (p : Prob) : List (Int × Int) → List Int → Option (List (Int × Int))
  | out, [] => some out
  | out, a :: r => if soonF p out a > (p.2.1.getD a.toNat arrD).2.2.2.1 then none else contL p (out ++ [(a, soonF p out a)]) r
def contF (p : Prob) (fixed : List (Int × Int)) (order : List Int) : List (Int × Int) × Bool := match contL p fixed order with
  | some l => (l, true)
  | none => ([], false)
def inA (p : Prob) (a : Int) : Prop := 0 ≤ a ∧ a < p.2.1.length
theorem slotV_soon {p : Prob} (h : ProbV p) {out : List (Int × Int)} (ho : ∀ s ∈ out, slotV p s) {a : Int} (ha : inA p a) (ht : ¬ soonF p out a > (p.2.1.getD a.toNat arrD).2.2.2.1) : slotV p (a, soonF p out a) := by
  obtain ⟨a1, a2⟩ := ha
  obtain ⟨⟨_, b, _⟩, _⟩ := h.arr a.toNat (by omega)
  have := soonF_in h ⟨a1, a2⟩ ho
  have b3 := b.2.2.1
  exact ⟨⟨a1, a2⟩, by simp only; omega, by simp only; omega⟩
theorem slotsV_app {p : Prob} {out : List (Int × Int)} (ho : ∀ s ∈ out, slotV p s) {s : Int × Int} (hs : slotV p s) : ∀ x ∈ out ++ [s], slotV p x := fun x hx => by
  rcases List.mem_append.1 hx with h | h
  · exact ho x h
  · simp only [List.mem_singleton] at h
    rw [h]; exact hs
/-- A loop that places arrivals one after the other. -/
structure ContI (p : Prob) (fixed : List (Int × Int)) (order : List Int) (i : Nat) (out : List (Int × Int)) : Prop where
  le : i ≤ order.length
  eq : contL p fixed order = contL p out (order.drop i)
  ok : ∀ s ∈ out, slotV p s
  len : out.length ≤ fixed.length + i
theorem ContI.done {p : Prob} {fixed : List (Int × Int)} {order : List Int} {i : Nat} {out : List (Int × Int)} (h : ContI p fixed order i out) (hi : ¬ i < order.length) : contF p fixed order = (out, true) := by
  unfold contF
  rw [h.eq, List.drop_eq_nil_of_le (by omega)]
  rfl
theorem ContI.fail {p : Prob} {fixed : List (Int × Int)} {order : List Int} {i : Nat} {out : List (Int × Int)} (h : ContI p fixed order i out) (hi : i < order.length) (ht : soonF p out (order.getD i 0) > (p.2.1.getD (order.getD i 0).toNat arrD).2.2.2.1) : contF p fixed order = ([], false) := by
  unfold contF
  rw [getD_lt hi] at ht
  rw [h.eq, List.drop_eq_getElem_cons hi, contL, if_pos ht]
theorem ContI.next {p : Prob} {fixed : List (Int × Int)} {order : List Int} {i : Nat} {out : List (Int × Int)} (hv : ProbV p) (h : ContI p fixed order i out) (hi : i < order.length) (ha : inA p (order.getD i 0)) (ht : ¬ soonF p out (order.getD i 0) > (p.2.1.getD (order.getD i 0).toNat arrD).2.2.2.1) : ContI p fixed order (i + 1) (out ++ [(order.getD i 0, soonF p out (order.getD i 0))]) := by
  refine ⟨by omega, ?_, slotsV_app h.ok (slotV_soon hv h.ok ha ht), by have := h.len; simp; omega⟩
  rw [getD_lt hi] at ht ⊢
  rw [h.eq, List.drop_eq_getElem_cons hi, contL, if_neg ht]
def f111 (x : ((List (List Int) × List (List Int)) × List (ByteArray × Int × Int × Int × Int) × List Int) × List (Int × Int) × List Int) : List (Int × Int) × Bool := contF x.1 x.2.1 x.2.2
def f111_pre (x : ((List (List Int) × List (List Int)) × List (ByteArray × Int × Int × Int × Int) × List Int) × List (Int × Int) × List Int) : Prop := okP x.1 ∧ ((∀ s ∈ x.2.1, slotV x.1 s) ∧ x.2.1.length ≤ 1000) ∧ (∀ a ∈ x.2.2, inA x.1 a) ∧ x.2.2.length ≤ 1000
def f111_e : Entry := { doms := [(true, (.pair (.pair (.sl (.sl (.int .i64))) (.sl (.sl (.int .i64)))) (.pair (.sl (.pair .str (.pair (.int .i64) (.pair (.int .i64) (.pair (.int .i64) (.int .i64)))))) (.sl (.int .i64))))), (false, (.sl (.pair (.int .i64) (.int .i64)))), (false, (.sl (.int .i64)))], cods := [(false, (.sl (.pair (.int .i64) (.int .i64)))), (false, .bool)], pre := f111_pre, fn := f111, uq := false, total := false }
def f111_E : Env := [(93, f93_e), (120, f120_e)]
def f111_A : Anns := { loops := [(1048576, { tms := [(3, .keep), (8, .ref 1049601), (14, .keep), (15, .keep), (16, .data false (.int .i64))], obs := [(1048576, .keep), (1049601, .arr (.grow) (.pair (.int .i64) (.int .i64)))], fz := [] })], own := [1049601] }
theorem f111_run (a0 : (List (List Int) × List (List Int)) × List (ByteArray × Int × Int × Int × Int) × List Int) (a1 : List (Int × Int)) (a2 : List Int) (K : (List (Int × Int) × Bool) → Prop) : runF Try.prog f111_E f111_A 6 Try.f111 f111_e.doms f111_e.cods (a0, a1, a2) K =
    (f93_pre a1 ∧
    br (lenOk (a2.length))
    (LoopP (V := Int × List (Int × Int) × Unit) (fun again v => (fun (again1 : Int → List (Int × Int) → Prop) (v1_0 : Int) (v1_1 : List (Int × Int)) =>
    br (decide (v1_0 < ((a2.length) : Int)))
    (br (decide (0 ≤ v1_0) && decide (v1_0 < ((a2.length) : Int)))
    (f120_pre (a0, (v1_1, (a2.getD v1_0.toNat 0))) ∧
    br (decide (0 ≤ (a2.getD v1_0.toNat 0)) && decide ((a2.getD v1_0.toNat 0) < ((a0.2.1.length) : Int)))
    (br (decide ((f120 (a0, (v1_1, (a2.getD v1_0.toNat 0)))) > ((((a0.2.1.getD ((a2.getD v1_0.toNat 0).toNat) ((⟨#[]⟩ : ByteArray), (0, (0, (0, 0))))).2).2).2).1))
    (K (([] : List (Int × Int)), false))
    (br (roomOk ((v1_1.length) + 1) 16)
    (again1 (IntKind.i64.wrap (v1_0 + 1)) (v1_1 ++ ([((a2.getD v1_0.toNat 0), (f120 (a0, (v1_1, (a2.getD v1_0.toNat 0)))))] : List (Int × Int))))
    False))
    False)
    False)
    (K (v1_1, true)))
    (fun v1_0 v1_1 => again (v1_0, v1_1, ())) v.1 v.2.1) (0, (f93 a1), ()))
    True) := by kernel_rfl
theorem f111_t (a0 : (List (List Int) × List (List Int)) × List (ByteArray × Int × Int × Int × Int) × List Int) (a1 : List (Int × Int)) (a2 : List Int) (hpre : f111_pre (a0, a1, a2)) (K : (List (Int × Int) × Bool) → Prop) (hK : ∀ y : List (Int × Int) × Bool, y = f111 (a0, a1, a2) → K y) : RunF Try.prog f111_E f111_A 6 Try.f111 f111_e.doms f111_e.cods (a0, a1, a2) K := by
  refine ⟨?_⟩
  rw [f111_run a0 a1 a2 K]
  obtain ⟨h, ⟨hs, hs1⟩, ho, ho1⟩ := hpre
  simp only at h hs hs1 ho ho1
  have hv := h.v
  have hd : ((⟨#[]⟩ : ByteArray), ((0 : Int), ((0 : Int), ((0 : Int), (0 : Int))))) = arrD := rfl
  simp only [hd]
  refine ⟨show a1.length ≤ 1048576 by omega, ?_⟩
  rw [br_true_]
  intro _
  refine LoopP.of (fun q : Int × List (Int × Int) × Unit => ∃ i : Nat, q.1 = (i : Int) ∧ ContI a0 a1 a2 i q.2.1) (fun q => ((a2.length : Int) - q.1).toNat) (fun again q hq hag => ?_) ⟨0, rfl, by omega, rfl, hs, by simp only; show a1.length ≤ _; omega⟩
  obtain ⟨j, out, u⟩ := q
  obtain ⟨i, e1, hI⟩ := hq
  simp only at e1 hI
  subst e1
  dsimp only
  have hi := hI.le
  have hlen := hI.len
  rw [br_dec]
  refine ⟨fun hlt => ?_, fun hlt => hK _ ?_⟩
  · have hlt : i < a2.length := by omega
    have ha := ho (a2.getD i 0) (by rw [getD_lt hlt]; exact List.getElem_mem _)
    rw [br_false_]
    refine ⟨inb (by omega) (by omega), ?_⟩
    simp only [Int.toNat_natCast]
    refine ⟨⟨h, hI.ok, ha.1, ha.2⟩, ?_⟩
    rw [br_false_]
    refine ⟨inb ha.1 ha.2, ?_⟩
    rw [br_dec]
    refine ⟨fun ht => hK _ (hI.fail hlt ht).symm, fun ht => ?_⟩
    rw [br_false_, roomOk_iff, wr (n := (i : Int) + 1) (by omega) (by omega)]
    exact ⟨by omega, hag (_, _, ()) ⟨i + 1, by simp only; omega, hI.next hv hlt ha ht⟩ (by simp only; omega)⟩
  · rw [f111, hI.done (by omega)]
theorem f111_fn : f111_e.fn = f111 := rfl
theorem f111_ok : EntryOK Try.prog 111 f111_e := by
  refine entryF progOK (EnvOK.cons f93_ok (EnvOK.cons f120_ok (EnvOK.nil))) (A := f111_A) (d := 6) Try.func111 rfl rfl rfl rfl (fun h => by cases h) fun x hpre => ?_
  obtain ⟨a0, a1, a2⟩ := x
  exact f111_t a0 a1 a2 hpre _ fun _ h => h.trans (congrFun f111_fn.symm _)
end Go.Proofs.Ytglokajinehbmaa
end

section
namespace Go.Proofs.Ytglokajinehbmaa
open Go Go.Pi Go.RowKit
set_option maxRecDepth 100000
set_option linter.unusedVariables false
set_option linter.unusedSimpArgs false

def f39 (l : List (Int × Int)) : List (Int × Int) := l
def f39_pre (l : List (Int × Int)) : Prop := l.length ≤ 1000
def f39_e : Entry := { doms := [(false, (.sl (.pair (.int .i64) (.int .i64))))], cods := [(false, (.sl (.pair (.int .i64) (.int .i64))))], pre := f39_pre, fn := f39, uq := true, total := false }
def f39_E : Env := []
def f39_A : Anns := { loops := [], own := [1049600] }
theorem f39_run (a0 : List (Int × Int)) (K : (List (Int × Int)) → Prop) : runU Try.prog f39_E f39_A 6 Try.f39 f39_e.doms f39_e.cods a0 K =
    (br (roomOk (0 + (a0.length)) 16)
    (K (([] : List (Int × Int)) ++ a0))
    False) := by kernel_rfl
theorem f39_t (a0 : List (Int × Int)) (hpre : f39_pre a0) (K : (List (Int × Int)) → Prop) (hK : ∀ y : List (Int × Int), y = f39 a0 → K y) : RunU Try.prog f39_E f39_A 6 Try.f39 f39_e.doms f39_e.cods a0 K := by
  refine ⟨?_⟩
  rw [f39_run a0 K]
  have h : a0.length ≤ 1000 := hpre
  rw [br_false_, roomOk_iff]
  exact ⟨by omega, hK _ rfl⟩
theorem f39_fn : f39_e.fn = f39 := rfl
theorem f39_ok : EntryOK Try.prog 39 f39_e := by
  refine entryFU progOK (EnvOK.nil) (A := f39_A) (d := 6) Try.func39 rfl rfl rfl (fun h => by cases h) fun x hpre => ?_
  exact f39_t x hpre _ fun _ h => h.trans (congrFun f39_fn.symm _)
end Go.Proofs.Ytglokajinehbmaa
end

section
namespace Go.Proofs.Ytglokajinehbmaa
open Go Go.Pi Go.RowKit
set_option maxRecDepth 100000
set_option linter.unusedVariables false
set_option linter.unusedSimpArgs false

def f32 (x : (List (List Int) × List (List Int)) × Int × Int × Bool) : Int := secAt x.1 x.2.1 x.2.2.1 x.2.2.2
def f32_pre (x : (List (List Int) × List (List Int)) × Int × Int × Bool) : Prop := (ruleOf x.1).2 = 0 ∧ (0 ≤ x.2.1 ∧ x.2.1 < x.1.1.length) ∧ 0 ≤ x.2.2.1 ∧ x.2.2.1 < x.1.1.length
def f32_e : Entry := { doms := [(true, (.pair (.sl (.sl (.int .i64))) (.sl (.sl (.int .i64))))), (true, (.pair (.int .i64) (.pair (.int .i64) .bool)))], cods := [(false, (.int .i64))], pre := f32_pre, fn := f32, uq := false, total := false }
def f32_E : Env := [(86, f86_e)]
def f32_A : Anns := { loops := [], own := [] }
theorem f32_run (a0 : List (List Int) × List (List Int)) (a1 : Int × Int × Bool) (K : Int → Prop) : runF Try.prog f32_E f32_A 6 Try.f32 f32_e.doms f32_e.cods (a0, a1) K =
    (br a1.2.2
    (br (decide (0 ≤ a1.1) && decide (a1.1 < ((a0.2.length) : Int)))
    (br (decide (0 ≤ a1.2.1) && decide (a1.2.1 < (((a0.2.getD a1.1.toNat []).length) : Int)))
    (K ((a0.2.getD a1.1.toNat []).getD a1.2.1.toNat 0))
    False)
    False)
    (br (decide (0 ≤ a1.1) && decide (a1.1 < ((a0.1.length) : Int)))
    (br (decide (0 ≤ a1.2.1) && decide (a1.2.1 < (((a0.1.getD a1.1.toNat []).length) : Int)))
    (K ((a0.1.getD a1.1.toNat []).getD a1.2.1.toNat 0))
    False)
    False)) := by kernel_rfl
theorem f32_t (a0 : List (List Int) × List (List Int)) (a1 : Int × Int × Bool) (hpre : f32_pre (a0, a1)) (K : Int → Prop) (hK : ∀ y : Int, y = f32 (a0, a1) → K y) : RunF Try.prog f32_E f32_A 6 Try.f32 f32_e.doms f32_e.cods (a0, a1) K := by
  refine ⟨?_⟩
  rw [f32_run a0 a1 K]
  obtain ⟨l, f, fr⟩ := a1
  obtain ⟨h, ⟨h1, h2⟩, h3, h4⟩ := hpre
  simp only at h h1 h2 h3 h4
  obtain ⟨⟨p1, p2, p3⟩, hr⟩ := ruleOf_zero h
  obtain ⟨⟨q1, q2⟩, _⟩ := hr l.toNat (by omega)
  dsimp only
  rw [br_both]
  refine ⟨fun hf => ?_, fun hf => ?_⟩
  · rw [br_false_, br_false_]
    exact ⟨inb h1 (by omega), inb h3 (by omega), hK _ (by rw [f32, secAt, hf]; rfl)⟩
  · rw [br_false_, br_false_]
    exact ⟨inb h1 (by omega), inb h3 (by omega), hK _ (by rw [f32, secAt, hf]; rfl)⟩
theorem f32_fn : f32_e.fn = f32 := rfl
theorem f32_ok : EntryOK Try.prog 32 f32_e := by
  refine entryF progOK (EnvOK.cons f86_ok (EnvOK.nil)) (A := f32_A) (d := 6) Try.func32 rfl rfl rfl rfl (fun h => by cases h) fun x hpre => ?_
  obtain ⟨a0, a1⟩ := x
  exact f32_t a0 a1 hpre _ fun _ h => h.trans (congrFun f32_fn.symm _)
end Go.Proofs.Ytglokajinehbmaa
end

section
namespace Go.Proofs.Ytglokajinehbmaa
open Go Go.Pi Go.RowKit
set_option maxRecDepth 100000
set_option linter.unusedVariables false
set_option linter.unusedSimpArgs false

def f48 (x : List Int × Int) : Bool := decide (x.2 ∈ x.1)
def f48_e : Entry := { doms := [(false, (.sl (.int .i64))), (false, (.int .i64))], cods := [(false, .bool)], pre := fun _ => True, fn := f48, uq := false, total := true }
def f48_E : Env := []
def f48_A : Anns := { loops := [(1048576, { tms := [(0, .keep), (1, .keep), (5, .data false (.int .i64))], obs := [], fz := [] })], own := [] }
theorem f48_run (a0 : List Int) (a1 : Int) (K : Bool → Prop) : runF Try.prog f48_E f48_A 6 Try.f48 f48_e.doms f48_e.cods (a0, a1) K =
    (LoopP (V := Int × Unit) (fun again v => (fun (again1 : Int → Prop) (v1_0 : Int) =>
    br (lenOk (a0.length))
    (br (decide (v1_0 < ((a0.length) : Int)))
    (br (decide (0 ≤ v1_0) && decide (v1_0 < ((a0.length) : Int)))
    (br ((a0.getD v1_0.toNat 0) == a1)
    (K true)
    (again1 (IntKind.i64.wrap (v1_0 + 1))))
    False)
    (K false))
    True)
    (fun v1_0 => again (v1_0, ())) v.1) (0, ())) := by kernel_rfl
theorem f48_t (a0 : List Int) (a1 : Int) (K : Bool → Prop) (hK : ∀ y : Bool, y = f48 (a0, a1) → K y) : RunF Try.prog f48_E f48_A 6 Try.f48 f48_e.doms f48_e.cods (a0, a1) K := by
  refine ⟨?_⟩
  rw [f48_run a0 a1 K]
  refine LoopP.up a0.length (fun i _ => ∀ x ∈ a0.take i.toNat, (x == a1) = false) (fun again i v hi0 hn hI hag => ?_) (by omega) all_zero
  dsimp only
  rw [br_true_, lenOk_iff]
  intro hl
  rw [br_both]
  refine ⟨fun hi => ?_, fun hi => hK _ ?_⟩
  · simp only [decide_eq_true_eq] at hi
    simp only [br_false_, Bool.and_eq_true, decide_eq_true_eq]
    refine ⟨⟨hi0, hi⟩, ?_⟩
    rw [br_both]
    refine ⟨fun he => hK _ ?_, fun hne => ?_⟩
    · have h1 : i.toNat < a0.length := by omega
      have : a1 ∈ a0 := by
        have h2 : a0[i.toNat] = a1 := by rw [← getD_lt (d := (0 : Int)) h1]; simpa using he
        rw [← h2]
        exact List.getElem_mem h1
      simp [f48, this]
    · rw [wr (by omega) (by omega)]
      exact hag () hi (all_step hi0 hi hI hne)
  · simp only [decide_eq_false_iff_not] at hi
    have h2 := all_done hi hI
    have : a1 ∉ a0 := fun hm => by simpa using h2 a1 hm
    simp [f48, this]
theorem f48_fn : f48_e.fn = f48 := rfl
theorem f48_ok : EntryOK Try.prog 48 f48_e := by
  refine entryF progOK (EnvOK.nil) (A := f48_A) (d := 6) Try.func48 rfl rfl rfl rfl (fun _ _ => trivial) fun x hpre => ?_
  obtain ⟨a0, a1⟩ := x
  exact f48_t a0 a1 _ fun _ h => h.trans (congrFun f48_fn.symm _)
end Go.Proofs.Ytglokajinehbmaa
end

section
namespace Go.Proofs.Ytglokajinehbmaa
open Go Go.Pi Go.RowKit
set_option maxRecDepth 100000
set_option linter.unusedVariables false
set_option linter.unusedSimpArgs false

def f92 (x : ((List (List Int) × List (List Int)) × List (ByteArray × Int × Int × Int × Int) × List Int) × Int × Int) : Int := apartF x.1 x.2.1 x.2.2
def f92_pre (x : ((List (List Int) × List (List Int)) × List (ByteArray × Int × Int × Int × Int) × List Int) × Int × Int) : Prop := okP x.1 ∧ (0 ≤ x.2.1 ∧ x.2.1 < x.1.2.1.length) ∧ 0 ≤ x.2.2 ∧ x.2.2 < x.1.2.1.length
def f92_e : Entry := { doms := [(true, (.pair (.pair (.sl (.sl (.int .i64))) (.sl (.sl (.int .i64)))) (.pair (.sl (.pair .str (.pair (.int .i64) (.pair (.int .i64) (.pair (.int .i64) (.int .i64)))))) (.sl (.int .i64))))), (false, (.int .i64)), (false, (.int .i64))], cods := [(false, (.int .i64))], pre := f92_pre, fn := f92, uq := false, total := false }
def f92_E : Env := [(32, f32_e), (48, f48_e), (104, f104_e)]
def f92_A : Anns := { loops := [], own := [] }
theorem f92_run (a0 : (List (List Int) × List (List Int)) × List (ByteArray × Int × Int × Int × Int) × List Int) (a1 : Int) (a2 : Int) (K : Int → Prop) : runF Try.prog f92_E f92_A 6 Try.f92 f92_e.doms f92_e.cods (a0, a1, a2) K =
    (br (decide (0 ≤ a1) && decide (a1 < ((a0.2.1.length) : Int)))
    (br (decide (0 ≤ a2) && decide (a2 < ((a0.2.1.length) : Int)))
    (f32_pre (a0.1, (((a0.2.1.getD a1.toNat ((⟨#[]⟩ : ByteArray), (0, (0, (0, 0))))).2).1, (((a0.2.1.getD a2.toNat ((⟨#[]⟩ : ByteArray), (0, (0, (0, 0))))).2).1, (f48 (a0.2.2, a1))))) ∧
    K (f32 (a0.1, (((a0.2.1.getD a1.toNat ((⟨#[]⟩ : ByteArray), (0, (0, (0, 0))))).2).1, (((a0.2.1.getD a2.toNat ((⟨#[]⟩ : ByteArray), (0, (0, (0, 0))))).2).1, (f48 (a0.2.2, a1)))))))
    False)
    False) := by kernel_rfl
theorem f92_t (a0 : (List (List Int) × List (List Int)) × List (ByteArray × Int × Int × Int × Int) × List Int) (a1 : Int) (a2 : Int) (hpre : f92_pre (a0, a1, a2)) (K : Int → Prop) (hK : ∀ y : Int, y = f92 (a0, a1, a2) → K y) : RunF Try.prog f92_E f92_A 6 Try.f92 f92_e.doms f92_e.cods (a0, a1, a2) K := by
  refine ⟨?_⟩
  rw [f92_run a0 a1 a2 K]
  obtain ⟨h, ⟨h1, h2⟩, h3, h4⟩ := hpre
  simp only at h h1 h2 h3 h4
  have hv := h.v
  obtain ⟨⟨_, c2, _⟩, c4⟩ := hv.arr a1.toNat (by omega)
  obtain ⟨⟨_, b2, _⟩, b4⟩ := hv.arr a2.toNat (by omega)
  rw [br_false_, br_false_]
  exact ⟨inb h1 h2, inb h3 h4, ⟨hv.rule, ⟨c2.1.1, c4⟩, b2.1.1, b4⟩, hK _ rfl⟩
theorem f92_fn : f92_e.fn = f92 := rfl
theorem f92_ok : EntryOK Try.prog 92 f92_e := by
  refine entryF progOK (EnvOK.cons f32_ok (EnvOK.cons f48_ok (EnvOK.cons f104_ok (EnvOK.nil)))) (A := f92_A) (d := 6) Try.func92 rfl rfl rfl rfl (fun h => by cases h) fun x hpre => ?_
  obtain ⟨a0, a1, a2⟩ := x
  exact f92_t a0 a1 a2 hpre _ fun _ h => h.trans (congrFun f92_fn.symm _)
end Go.Proofs.Ytglokajinehbmaa
end

section
namespace Go.Proofs.Ytglokajinehbmaa
open Go Go.Pi Go.RowKit
set_option maxRecDepth 100000
set_option linter.unusedVariables false
set_option linter.unusedSimpArgs false

def f43 (x : ((List (List Int) × List (List Int)) × List (ByteArray × Int × Int × Int × Int) × List Int) × List (Int × Int) × List Int) : List (Int × Int) × Bool := contF x.1 x.2.1 x.2.2
def f43_pre (x : ((List (List Int) × List (List Int)) × List (ByteArray × Int × Int × Int × Int) × List Int) × List (Int × Int) × List Int) : Prop := okP x.1 ∧ ((∀ s ∈ x.2.1, slotV x.1 s) ∧ x.2.1.length ≤ 900) ∧ (∀ a ∈ x.2.2, inA x.1 a) ∧ x.2.2.length ≤ 1000
def f43_e : Entry := { doms := [(true, (.pair (.pair (.sl (.sl (.int .i64))) (.sl (.sl (.int .i64)))) (.pair (.sl (.pair .str (.pair (.int .i64) (.pair (.int .i64) (.pair (.int .i64) (.int .i64)))))) (.sl (.int .i64))))), (false, (.sl (.pair (.int .i64) (.int .i64)))), (false, (.sl (.int .i64)))], cods := [(false, (.sl (.pair (.int .i64) (.int .i64)))), (false, .bool)], pre := f43_pre, fn := f43, uq := false, total := false }
def f43_E : Env := [(39, f39_e), (92, f92_e), (111, f111_e)]
def f43_A : Anns := { loops := [(1048576, { tms := [(2, .keep), (3, .keep), (8, .ref 1049601), (9, .data false (.int .i64))], obs := [(1048576, .keep), (1049601, .arr (.uniq) (.pair (.int .i64) (.int .i64)))], fz := [] }),
  (1048578, { tms := [(2, .keep), (3, .keep), (8, .keep), (9, .keep), (10, .keep), (11, .data false (.int .i64)), (12, .data false (.int .i64))], obs := [(1048576, .keep), (1049601, .keep), (1053704, .keep)], fz := [] })], own := [1049601] }
theorem f43_run (a0 : (List (List Int) × List (List Int)) × List (ByteArray × Int × Int × Int × Int) × List Int) (a1 : List (Int × Int)) (a2 : List Int) (K : (List (Int × Int) × Bool) → Prop) : runF Try.prog f43_E f43_A 6 Try.f43 f43_e.doms f43_e.cods (a0, a1, a2) K =
    (f39_pre a1 ∧
    LoopP (V := Int × List (Int × Int) × Unit) (fun again v => (fun (again1 : Int → List (Int × Int) → Prop) (v1_0 : Int) (v1_1 : List (Int × Int)) =>
    br (lenOk (a2.length))
    (br (decide (v1_0 < ((a2.length) : Int)))
    (br (decide (0 ≤ v1_0) && decide (v1_0 < ((a2.length) : Int)))
    (br (decide (0 ≤ (a2.getD v1_0.toNat 0)) && decide ((a2.getD v1_0.toNat 0) < ((a0.2.1.length) : Int)))
    (LoopP (V := Int × Int × Unit) (fun again v => (fun (again2 : Int → Int → Prop) (v2_0 : Int) (v2_1 : Int) =>
    br (lenOk (v1_1.length))
    (br (decide (v2_1 < ((v1_1.length) : Int)))
    (br (decide (0 ≤ v2_1) && decide (v2_1 < ((v1_1.length) : Int)))
    (br (decide (0 ≤ v2_1) && decide (v2_1 < ((v1_1.length) : Int)))
    (br (decide (0 ≤ v1_0) && decide (v1_0 < ((a2.length) : Int)))
    (f92_pre (a0, ((v1_1.getD v2_1.toNat (0, 0)).1, (a2.getD v1_0.toNat 0))) ∧
    again2 (minmax true v2_0 (IntKind.i64.wrap ((v1_1.getD v2_1.toNat (0, 0)).2 + (f92 (a0, ((v1_1.getD v2_1.toNat (0, 0)).1, (a2.getD v1_0.toNat 0))))))) (IntKind.i64.wrap (v2_1 + 1)))
    False)
    False)
    False)
    (br (decide (v2_0 > ((((a0.2.1.getD ((a2.getD v1_0.toNat 0).toNat) ((⟨#[]⟩ : ByteArray), (0, (0, (0, 0))))).2).2).2).1))
    (K (([] : List (Int × Int)), false))
    (br (decide (0 ≤ v1_0) && decide (v1_0 < ((a2.length) : Int)))
    (br (roomOk ((v1_1.length) + 1) 16)
    (again1 (IntKind.i64.wrap (v1_0 + 1)) (v1_1 ++ ([((a2.getD v1_0.toNat 0), v2_0)] : List (Int × Int))))
    False)
    False)))
    True)
    (fun v2_0 v2_1 => again (v2_0, v2_1, ())) v.1 v.2.1) ((((a0.2.1.getD ((a2.getD v1_0.toNat 0).toNat) ((⟨#[]⟩ : ByteArray), (0, (0, (0, 0))))).2).2).1, 0, ()))
    False)
    False)
    (K (v1_1, true)))
    True)
    (fun v1_0 v1_1 => again (v1_0, v1_1, ())) v.1 v.2.1) (0, (f39 a1), ())) := by kernel_rfl
theorem f43_t (a0 : (List (List Int) × List (List Int)) × List (ByteArray × Int × Int × Int × Int) × List Int) (a1 : List (Int × Int)) (a2 : List Int) (hpre : f43_pre (a0, a1, a2)) (K : (List (Int × Int) × Bool) → Prop) (hK : ∀ y : List (Int × Int) × Bool, y = f43 (a0, a1, a2) → K y) : RunF Try.prog f43_E f43_A 6 Try.f43 f43_e.doms f43_e.cods (a0, a1, a2) K := by
  refine ⟨?_⟩
  rw [f43_run a0 a1 a2 K]
  obtain ⟨h, ⟨hs, hs1⟩, ho, ho1⟩ := hpre
  simp only at h hs hs1 ho ho1
  have hv := h.v
  have hd : ((⟨#[]⟩ : ByteArray), ((0 : Int), ((0 : Int), ((0 : Int), (0 : Int))))) = arrD := rfl
  simp only [hd]
  refine ⟨show a1.length ≤ 1000 by omega, ?_⟩
  refine LoopP.of (fun q : Int × List (Int × Int) × Unit => ∃ i : Nat, q.1 = (i : Int) ∧ ContI a0 a1 a2 i q.2.1) (fun q => ((a2.length : Int) - q.1).toNat) (fun again q hq hag => ?_) ⟨0, rfl, by omega, rfl, hs, by simp only; show a1.length ≤ _; omega⟩
  obtain ⟨j, out, u⟩ := q
  obtain ⟨i, e1, hI⟩ := hq
  simp only at e1 hI
  subst e1
  dsimp only
  have hi := hI.le
  have hlen := hI.len
  rw [br_true_, lenOk_iff]
  intro _
  rw [br_dec]
  refine ⟨fun hlt => ?_, fun hlt => hK _ ?_⟩
  · have hlt : i < a2.length := by omega
    have ha := ho (a2.getD i 0) (by rw [getD_lt hlt]; exact List.getElem_mem _)
    have b0 : (decide (0 ≤ (i : Int)) && decide ((i : Int) < (a2.length : Int))) = true := inb (by omega) (by omega)
    rw [b0]
    simp only [Int.toNat_natCast, br_t]
    rw [br_false_]
    refine ⟨inb ha.1 ha.2, ?_⟩
    refine LoopP.of (fun q : Int × Int × Unit => ∃ k : Nat, k ≤ out.length ∧ q.2.1 = (k : Int) ∧ q.1 = soonF a0 (out.take k) (a2.getD i 0)) (fun q => ((out.length : Int) - q.2.1).toNat) (fun again2 q hq hag2 => ?_) ⟨0, by omega, rfl, rfl⟩
    obtain ⟨t, kk, u2⟩ := q
    obtain ⟨k, hk, e1, e2⟩ := hq
    simp only at e1 e2
    subst e1 e2
    dsimp only
    rw [br_true_, lenOk_iff]
    intro _
    rw [br_dec]
    refine ⟨fun hk2 => ?_, fun hk2 => ?_⟩
    · have hk2 : k < out.length := by omega
      have c0 : (decide (0 ≤ (k : Int)) && decide ((k : Int) < (out.length : Int))) = true := inb (by omega) (by omega)
      rw [c0]
      simp only [Int.toNat_natCast, br_t]
      have hm := hI.ok (out.getD k (0, 0)) (by rw [getD_lt hk2]; exact List.getElem_mem _)
      have hap := apartF_in hv hm.1 ha
      have e92 : f92 (a0, (out.getD k (0, 0)).1, a2.getD i 0) = apartF a0 (out.getD k (0, 0)).1 (a2.getD i 0) := rfl
      obtain ⟨s1, s2⟩ := hm
      refine ⟨⟨h, s1, ha.1, ha.2⟩, ?_⟩
      rw [e92, wr (n := (out.getD k (0, 0)).2 + _) (by omega) (by omega), wr (n := (k : Int) + 1) (by omega) (by omega), minmax_max]
      exact hag2 (_, _, ()) ⟨k + 1, by omega, by simp only; omega, (soonF_take a0 out _ hk2).symm⟩ (by simp only; omega)
    · rw [List.take_of_length_le (by omega), br_dec]
      refine ⟨fun ht => hK _ (hI.fail hlt ht).symm, fun ht => ?_⟩
      rw [br_false_, roomOk_iff, wr (n := (i : Int) + 1) (by omega) (by omega)]
      exact ⟨by omega, hag (_, _, ()) ⟨i + 1, by simp only; omega, hI.next hv hlt ha ht⟩ (by simp only; omega)⟩
  · rw [f43, hI.done (by omega)]
theorem f43_fn : f43_e.fn = f43 := rfl
theorem f43_ok : EntryOK Try.prog 43 f43_e := by
  refine entryF progOK (EnvOK.cons f39_ok (EnvOK.cons f92_ok (EnvOK.cons f111_ok (EnvOK.nil)))) (A := f43_A) (d := 6) Try.func43 rfl rfl rfl rfl (fun h => by cases h) fun x hpre => ?_
  obtain ⟨a0, a1, a2⟩ := x
  exact f43_t a0 a1 a2 hpre _ fun _ h => h.trans (congrFun f43_fn.symm _)
end Go.Proofs.Ytglokajinehbmaa
end

section
namespace Go.Proofs.Ytglokajinehbmaa
open Go Go.Pi Go.RowKit
set_option maxRecDepth 100000
set_option linter.unusedVariables false
set_option linter.unusedSimpArgs false

def ordE (p : Prob) (o : List Int) (i : Nat) : Int := if ¬ (0 ≤ o.getD i 0 ∧ o.getD i 0 ≤ (p.2.1.length : Int) - 1) then 6 else if o.getD i 0 ∈ o.take i then 21 else 0
def ordChk (p : Prob) (o : List Int) : Int := (eachE o.length (ordE p o)).2
def orderErr (p : Prob) (o : List Int) : Int := if ordChk p o ≠ 0 then ordChk p o else if (contF p [] o).2 = true then 0 else 20
theorem ordE_zero {p : Prob} {o : List Int} {i : Nat} (h : ordE p o i = 0) : inA p (o.getD i 0) ∧ o.getD i 0 ∉ o.take i := by
  unfold ordE at h
  split at h
  · simp at h
  · rename_i h1
    split at h
    · simp at h
    · rename_i h2
      have h1 := Classical.byContradiction h1
      exact ⟨⟨h1.1, by omega⟩, h2⟩
theorem ordChk_zero {p : Prob} {o : List Int} (h : ordChk p o = 0) : ∀ a ∈ o, inA p a := fun a ha => by
  obtain ⟨i, hi, rfl⟩ := List.getElem_of_mem ha
  have := (ordE_zero (eachE_zero h i hi)).1
  rwa [getD_lt hi] at this
theorem ordE_in {p : Prob} {o : List Int} (h : ∀ i, i < o.length → ordE p o i = 0) : ∀ a ∈ o, inA p a := fun a ha => by
  obtain ⟨i, hi, rfl⟩ := List.getElem_of_mem ha
  have := (ordE_zero (h i hi)).1
  rwa [getD_lt hi] at this
def f42 (x : ((List (List Int) × List (List Int)) × List (ByteArray × Int × Int × Int × Int) × List Int) × List Int) : Int := orderErr x.1 x.2
def f42_pre (x : ((List (List Int) × List (List Int)) × List (ByteArray × Int × Int × Int × Int) × List Int) × List Int) : Prop := okP x.1 ∧ x.2.length ≤ 1000
def f42_e : Entry := { doms := [(true, (.pair (.pair (.sl (.sl (.int .i64))) (.sl (.sl (.int .i64)))) (.pair (.sl (.pair .str (.pair (.int .i64) (.pair (.int .i64) (.pair (.int .i64) (.int .i64)))))) (.sl (.int .i64))))), (false, (.sl (.int .i64)))], cods := [(false, (.int .i64))], pre := f42_pre, fn := f42, uq := false, total := false }
def f42_E : Env := [(17, f17_e), (43, f43_e), (48, f48_e), (111, f111_e)]
def f42_A : Anns := { loops := [(1048576, { tms := [(1, .keep), (2, .keep), (5, .data false (.int .i64))], obs := [(1048576, .keep)], fz := [] })], own := [] }
theorem f42_run (a0 : (List (List Int) × List (List Int)) × List (ByteArray × Int × Int × Int × Int) × List Int) (a1 : List Int) (K : Int → Prop) : runF Try.prog f42_E f42_A 6 Try.f42 f42_e.doms f42_e.cods (a0, a1) K =
    (LoopP (V := Int × Unit) (fun again v => (fun (again1 : Int → Prop) (v1_0 : Int) =>
    br (lenOk (a1.length))
    (br (decide (v1_0 < ((a1.length) : Int)))
    (br (decide (0 ≤ v1_0) && decide (v1_0 < ((a1.length) : Int)))
    (br (lenOk (a0.2.1.length))
    (br (!(f17 ((a1.getD v1_0.toNat 0), (0, (IntKind.i64.wrap (((a0.2.1.length) : Int) - 1))))))
    (K 6)
    (br (decide ((0 : Int) ≤ 0 ∧ 0 ≤ v1_0 ∧ v1_0 ≤ ((a1.length) : Int)))
    (br (decide (0 ≤ v1_0) && decide (v1_0 < ((a1.length) : Int)))
    (br (f48 (((a1.take v1_0.toNat).drop 0), (a1.getD v1_0.toNat 0)))
    (K 21)
    (again1 (IntKind.i64.wrap (v1_0 + 1))))
    False)
    False))
    True)
    False)
    (f43_pre (a0, (([] : List (Int × Int)), a1)) ∧
    br (!(f43 (a0, (([] : List (Int × Int)), a1))).2)
    (K 20)
    (K 0)))
    True)
    (fun v1_0 => again (v1_0, ())) v.1) (0, ())) := by kernel_rfl
theorem f42_t (a0 : (List (List Int) × List (List Int)) × List (ByteArray × Int × Int × Int × Int) × List Int) (a1 : List Int) (hpre : f42_pre (a0, a1)) (K : Int → Prop) (hK : ∀ y : Int, y = f42 (a0, a1) → K y) : RunF Try.prog f42_E f42_A 6 Try.f42 f42_e.doms f42_e.cods (a0, a1) K := by
  refine ⟨?_⟩
  rw [f42_run a0 a1 K]
  obtain ⟨h, h1⟩ := hpre
  simp only at h h1
  have hv := h.v
  have h6 := hv.six
  refine each_walk (n := a1.length) (e := ordE a0 a1) (fun again i hi hI good => ?_)
  dsimp only
  rw [br_true_, lenOk_iff]
  intro _
  rw [br_dec]
  refine ⟨fun hlt => ?_, fun hlt => ?_⟩
  · have hlt : i < a1.length := by omega
    have b0 : (decide (0 ≤ (i : Int)) && decide ((i : Int) < (a1.length : Int))) = true := inb (by omega) (by omega)
    rw [b0]
    simp only [Int.toNat_natCast, br_t, List.drop_zero]
    have out : ∀ n : Int, ordE a0 a1 i = n → n ≠ 0 → K n := fun n e hn => hK _ (by
      have := eachE_some hlt hI (show ordE a0 a1 i ≠ 0 by rw [e]; exact hn)
      rw [f42, orderErr, ordChk, this, e, if_pos hn])
    rw [br_true_]
    intro _
    rw [wr (n := (a0.2.1.length : Int) - 1) (by omega) (by omega), br_both]
    refine ⟨fun hb => out 6 (by rw [ordE, if_pos (f17_f1.1 (not_true.1 hb))]) (by decide), fun hb => ?_⟩
    have hb := f17_t1.1 (not_false_.1 hb)
    have hnn : ¬ ¬ (0 ≤ a1.getD i 0 ∧ a1.getD i 0 ≤ (a0.2.1.length : Int) - 1) := fun hh => hh hb
    rw [br_false_]
    refine ⟨by simp; omega, ?_⟩
    rw [br_both]
    refine ⟨fun hm => out 21 ?_ (by decide), fun hm => ?_⟩
    · rw [ordE, if_neg hnn, if_pos (of_decide_eq_true hm)]
    · rw [wr (n := (i : Int) + 1) (by omega) (by omega)]
      exact good hlt (by rw [ordE, if_neg hnn, if_neg (of_decide_eq_false hm)])
  · have hz := fun j (hj : j < a1.length) => hI j (by omega)
    have hin := ordE_in hz
    have hc : ordChk a0 a1 = 0 := by rw [ordChk, eachE_none hz]
    refine ⟨⟨h, ⟨fun s hs => (by cases hs), Nat.zero_le _⟩, hin, h1⟩, ?_⟩
    have e43 : f43 (a0, [], a1) = contF a0 [] a1 := rfl
    rw [e43, br_both]
    refine ⟨fun hb => hK _ ?_, fun hb => hK _ ?_⟩
    · rw [f42, orderErr, hc, if_neg (by simp), if_neg (by rw [not_true.1 hb]; decide)]
    · rw [f42, orderErr, hc, if_neg (by simp), if_pos (not_false_.1 hb)]
theorem f42_fn : f42_e.fn = f42 := rfl
theorem f42_ok : EntryOK Try.prog 42 f42_e := by
  refine entryF progOK (EnvOK.cons f17_ok (EnvOK.cons f43_ok (EnvOK.cons f48_ok (EnvOK.cons f111_ok (EnvOK.nil))))) (A := f42_A) (d := 6) Try.func42 rfl rfl rfl rfl (fun h => by cases h) fun x hpre => ?_
  obtain ⟨a0, a1⟩ := x
  exact f42_t a0 a1 hpre _ fun _ h => h.trans (congrFun f42_fn.symm _)
end Go.Proofs.Ytglokajinehbmaa
end

section
namespace Go.Proofs.Ytglokajinehbmaa
open Go Go.Pi Go.RowKit
set_option maxRecDepth 100000
set_option linter.unusedVariables false
set_option linter.unusedSimpArgs false

theorem ord_errs (a b : Bool) : f66 [f68 (a, 6), f68 (!b, 21)] = if a = false then 6 else if b = true then 21 else 0 := by
  cases a <;> cases b <;> rfl
abbrev ProbT := (List (List Int) × List (List Int)) × List (ByteArray × Int × Int × Int × Int) × List Int
def f91 (x : ((List (List Int) × List (List Int)) × List (ByteArray × Int × Int × Int × Int) × List Int) × List Int) : ProbT × List (Int × Int) × Int :=
  if (probOf x.1).2 ≠ 0 then (x.1, [], (probOf x.1).2) else if ordChk x.1 x.2 ≠ 0 then (x.1, [], ordChk x.1 x.2) else (x.1, (contF x.1 [] x.2).1, if (contF x.1 [] x.2).2 = true then 0 else 20)
def f91_pre (x : ((List (List Int) × List (List Int)) × List (ByteArray × Int × Int × Int × Int) × List Int) × List Int) : Prop := f22_pre x.1.2.1 ∧ x.2.length ≤ 1000
def f91_e : Entry := { doms := [(true, (.pair (.pair (.sl (.sl (.int .i64))) (.sl (.sl (.int .i64)))) (.pair (.sl (.pair .str (.pair (.int .i64) (.pair (.int .i64) (.pair (.int .i64) (.int .i64)))))) (.sl (.int .i64))))), (false, (.sl (.int .i64)))], cods := [(true, (.pair (.pair (.sl (.sl (.int .i64))) (.sl (.sl (.int .i64)))) (.pair (.sl (.pair .str (.pair (.int .i64) (.pair (.int .i64) (.pair (.int .i64) (.int .i64)))))) (.sl (.int .i64))))), (false, (.sl (.pair (.int .i64) (.int .i64)))), (false, (.int .i64))], pre := f91_pre, fn := f91, uq := false, total := false }
def f91_E : Env := [(24, f24_e), (65, f65_e), (66, f66_e), (68, f68_e), (69, f69_e), (111, f111_e), (42, f42_e)]
def f91_A : Anns := { loops := [(1103808692224, { tms := [(1, .keep), (9, .keep), (10, .keep), (11, .data false (.int .i64))], obs := [(1048576, .keep), (1048577, .keep), (1048578, .keep), (1049605, .keep), (1100586418176, .keep), (1100586418177, .keep)], fz := [] })], own := [] }
theorem f91_run (a0 : (List (List Int) × List (List Int)) × List (ByteArray × Int × Int × Int × Int) × List Int) (a1 : List Int) (K : (((List (List Int) × List (List Int)) × List (ByteArray × Int × Int × Int × Int) × List Int) × List (Int × Int) × Int) → Prop) : runF Try.prog f91_E f91_A 6 Try.f91 f91_e.doms f91_e.cods (a0, a1) K =
    (f24_pre a0 ∧
    br ((f24 a0).2 != 0)
    (K (a0, (([] : List (Int × Int)), (f24 a0).2)))
    (br (lenOk (a1.length))
    (LoopP (V := Int × Unit) (fun again v => (fun (again1 : Int → Prop) (v1_0 : Int) =>
    br (decide (v1_0 < ((a1.length) : Int)))
    (br (decide (0 ≤ v1_0) && decide (v1_0 < ((a1.length) : Int)))
    (br (decide ((0 : Int) ≤ 0 ∧ 0 ≤ v1_0 ∧ v1_0 ≤ ((a1.length) : Int)))
    (br (lenOk (a0.2.1.length))
    (br ((f66 ([(f68 ((f65 ((a1.getD v1_0.toNat 0), (0, (IntKind.i64.wrap (((a0.2.1.length) : Int) - 1))))), 6)), (f68 ((!(f69 (((a1.take v1_0.toNat).drop 0), (a1.getD v1_0.toNat 0)))), 21))] : List Int)) != 0)
    (br ((f66 ([(f68 ((f65 ((a1.getD v1_0.toNat 0), (0, (IntKind.i64.wrap (((a0.2.1.length) : Int) - 1))))), 6)), (f68 ((!(f69 (((a1.take v1_0.toNat).drop 0), (a1.getD v1_0.toNat 0)))), 21))] : List Int)) != 0)
    (K (a0, (([] : List (Int × Int)), (f66 ([(f68 ((f65 ((a1.getD v1_0.toNat 0), (0, (IntKind.i64.wrap (((a0.2.1.length) : Int) - 1))))), 6)), (f68 ((!(f69 (((a1.take v1_0.toNat).drop 0), (a1.getD v1_0.toNat 0)))), 21))] : List Int)))))
    (f111_pre (a0, (([] : List (Int × Int)), a1)) ∧
    K (a0, ((f111 (a0, (([] : List (Int × Int)), a1))).1, (f68 ((f111 (a0, (([] : List (Int × Int)), a1))).2, 20))))))
    (again1 (IntKind.i64.wrap (v1_0 + 1))))
    True)
    False)
    False)
    (f111_pre (a0, (([] : List (Int × Int)), a1)) ∧
    K (a0, ((f111 (a0, (([] : List (Int × Int)), a1))).1, (f68 ((f111 (a0, (([] : List (Int × Int)), a1))).2, 20))))))
    (fun v1_0 => again (v1_0, ())) v.1) (0, ()))
    True)) := by kernel_rfl
theorem f91_t (a0 : (List (List Int) × List (List Int)) × List (ByteArray × Int × Int × Int × Int) × List Int) (a1 : List Int) (hpre : f91_pre (a0, a1)) (K : (((List (List Int) × List (List Int)) × List (ByteArray × Int × Int × Int × Int) × List Int) × List (Int × Int) × Int) → Prop) (hK : ∀ y : ((List (List Int) × List (List Int)) × List (ByteArray × Int × Int × Int × Int) × List Int) × List (Int × Int) × Int, y = f91 (a0, a1) → K y) : RunF Try.prog f91_E f91_A 6 Try.f91 f91_e.doms f91_e.cods (a0, a1) K := by
  refine ⟨?_⟩
  rw [f91_run a0 a1 K]
  obtain ⟨h22, h1⟩ := hpre
  simp only at h22 h1
  refine ⟨h22, ?_⟩
  have e24 : f24 a0 = probOf a0 := rfl
  rw [e24, br_both]
  refine ⟨fun hp => hK _ ?_, fun hp => ?_⟩
  · rw [f91, if_pos (by simpa using hp)]
  have h : okP a0 := by
    have : (probOf a0).2 = 0 := by simpa using hp
    exact this
  have n1 : ¬ (probOf a0).2 ≠ 0 := fun hh => hh h
  have hv := h.v
  have h6 := hv.six
  rw [br_true_]
  intro _
  refine each_walk (n := a1.length) (e := ordE a0 a1) (fun again i hi hI good => ?_)
  dsimp only
  rw [br_dec]
  refine ⟨fun hlt => ?_, fun hlt => ?_⟩
  · have hlt : i < a1.length := by omega
    have b0 : (decide (0 ≤ (i : Int)) && decide ((i : Int) < (a1.length : Int))) = true := inb (by omega) (by omega)
    rw [b0]
    simp only [Int.toNat_natCast, br_t, List.drop_zero]
    rw [br_false_]
    refine ⟨by simp; omega, ?_⟩
    rw [br_true_]
    intro _
    rw [wr (n := (a0.2.1.length : Int) - 1) (by omega) (by omega)]
    have hX : f66 [f68 (f65 (a1.getD i 0, 0, (a0.2.1.length : Int) - 1), 6), f68 (!(f69 (a1.take i, a1.getD i 0)), 21)] = ordE a0 a1 i := by
      rw [ord_errs, ordE]
      by_cases h3 : 0 ≤ a1.getD i 0 ∧ a1.getD i 0 ≤ (a0.2.1.length : Int) - 1
      · rw [f65_t1.2 h3, if_neg (show ¬ (true = false) by decide), if_neg (fun hh : ¬ (0 ≤ a1.getD i 0 ∧ a1.getD i 0 ≤ (a0.2.1.length : Int) - 1) => hh h3)]
        by_cases h4 : a1.getD i 0 ∈ a1.take i
        · rw [if_pos (show f69 (a1.take i, a1.getD i 0) = true from decide_eq_true h4), if_pos h4]
        · rw [if_neg (show ¬ f69 (a1.take i, a1.getD i 0) = true from fun hh => h4 (of_decide_eq_true hh)), if_neg h4]
      · rw [f65_f1.2 h3, if_pos rfl, if_pos h3]
    rw [hX]
    by_cases h5 : ordE a0 a1 i = 0
    · rw [show (ordE a0 a1 i != 0) = false by simp [h5]]
      show again _
      rw [wr (n := (i : Int) + 1) (by omega) (by omega)]
      exact good hlt h5
    · rw [show (ordE a0 a1 i != 0) = true by simp [h5]]
      have hs := eachE_some hlt hI h5
      refine hK _ ?_
      rw [f91, if_neg n1, ordChk, hs, if_pos h5]
  · have hz := fun j (hj : j < a1.length) => hI j (by omega)
    have hin := ordE_in hz
    have hc : ordChk a0 a1 = 0 := by rw [ordChk, eachE_none hz]
    refine ⟨⟨h, ⟨fun s hs => (by cases hs), Nat.zero_le _⟩, hin, h1⟩, hK _ ?_⟩
    rw [f91, if_neg n1, if_neg (by simp [hc])]
    rfl
theorem f91_fn : f91_e.fn = f91 := rfl
theorem f91_ok : EntryOK Try.prog 91 f91_e := by
  refine entryF progOK (EnvOK.cons f24_ok (EnvOK.cons f65_ok (EnvOK.cons f66_ok (EnvOK.cons f68_ok (EnvOK.cons f69_ok (EnvOK.cons f111_ok (EnvOK.cons f42_ok (EnvOK.nil)))))))) (A := f91_A) (d := 6) Try.func91 rfl rfl rfl rfl (fun h => by cases h) fun x hpre => ?_
  obtain ⟨a0, a1⟩ := x
  exact f91_t a0 a1 hpre _ fun _ h => h.trans (congrFun f91_fn.symm _)
end Go.Proofs.Ytglokajinehbmaa
end

section
namespace Go.Proofs.Ytglokajinehbmaa
open Go Go.Pi Go.RowKit
set_option maxRecDepth 100000
set_option linter.unusedVariables false
set_option linter.unusedSimpArgs false

def slot1 (p : Prob) (b : List (Int × Int)) (s : Int × Int) : Int := if ¬ (0 ≤ s.1 ∧ s.1 ≤ (p.2.1.length : Int) - 1) then 6 else if hasS b s.1 = true then 21 else 0
def f103 (x : ((List (List Int) × List (List Int)) × List (ByteArray × Int × Int × Int × Int) × List Int) × List (Int × Int) × Int × Int) : Int := slot1 x.1 x.2.1 x.2.2
def f103_pre (x : ((List (List Int) × List (List Int)) × List (ByteArray × Int × Int × Int × Int) × List Int) × List (Int × Int) × Int × Int) : Prop := x.1.2.1.length ≤ 1000
def f103_e : Entry := { doms := [(true, (.pair (.pair (.sl (.sl (.int .i64))) (.sl (.sl (.int .i64)))) (.pair (.sl (.pair .str (.pair (.int .i64) (.pair (.int .i64) (.pair (.int .i64) (.int .i64)))))) (.sl (.int .i64))))), (false, (.sl (.pair (.int .i64) (.int .i64)))), (true, (.pair (.int .i64) (.int .i64)))], cods := [(false, (.int .i64))], pre := f103_pre, fn := f103, uq := false, total := false }
def f103_E : Env := [(65, f65_e), (66, f66_e), (68, f68_e), (112, f112_e), (91, f91_e), (104, f104_e)]
def f103_A : Anns := { loops := [], own := [] }
theorem f103_run (a0 : (List (List Int) × List (List Int)) × List (ByteArray × Int × Int × Int × Int) × List Int) (a1 : List (Int × Int)) (a2 : Int × Int) (K : Int → Prop) : runF Try.prog f103_E f103_A 6 Try.f103 f103_e.doms f103_e.cods (a0, a1, a2) K =
    (br (lenOk (a0.2.1.length))
    (K (f66 ([(f68 ((f65 (a2.1, (0, (IntKind.i64.wrap (((a0.2.1.length) : Int) - 1))))), 6)), (f68 ((!(f112 (a1, a2.1))), 21))] : List Int)))
    True) := by kernel_rfl
theorem f103_t (a0 : (List (List Int) × List (List Int)) × List (ByteArray × Int × Int × Int × Int) × List Int) (a1 : List (Int × Int)) (a2 : Int × Int) (hpre : f103_pre (a0, a1, a2)) (K : Int → Prop) (hK : ∀ y : Int, y = f103 (a0, a1, a2) → K y) : RunF Try.prog f103_E f103_A 6 Try.f103 f103_e.doms f103_e.cods (a0, a1, a2) K := by
  refine ⟨?_⟩
  rw [f103_run a0 a1 a2 K]
  have h : a0.2.1.length ≤ 1000 := hpre
  rw [br_true_]
  intro _
  refine hK _ ?_
  rw [wr (n := (a0.2.1.length : Int) - 1) (by omega) (by omega), ord_errs, f103, slot1]
  simp only
  by_cases h3 : 0 ≤ a2.1 ∧ a2.1 ≤ (a0.2.1.length : Int) - 1
  · rw [f65_t1.2 h3, if_neg (show ¬ (true = false) by decide), if_neg (fun hh : ¬ (0 ≤ a2.1 ∧ a2.1 ≤ (a0.2.1.length : Int) - 1) => hh h3)]
    rfl
  · rw [f65_f1.2 h3, if_pos rfl, if_pos h3]
theorem f103_fn : f103_e.fn = f103 := rfl
theorem f103_ok : EntryOK Try.prog 103 f103_e := by
  refine entryF progOK (EnvOK.cons f65_ok (EnvOK.cons f66_ok (EnvOK.cons f68_ok (EnvOK.cons f112_ok (EnvOK.cons f91_ok (EnvOK.cons f104_ok (EnvOK.nil))))))) (A := f103_A) (d := 6) Try.func103 rfl rfl rfl rfl (fun h => by cases h) fun x hpre => ?_
  obtain ⟨a0, a1, a2⟩ := x
  exact f103_t a0 a1 a2 hpre _ fun _ h => h.trans (congrFun f103_fn.symm _)
end Go.Proofs.Ytglokajinehbmaa
end

section
namespace Go.Proofs.Ytglokajinehbmaa
open Go Go.Pi Go.RowKit
set_option maxRecDepth 100000
set_option linter.unusedVariables false
set_option linter.unusedSimpArgs false

def f87 (x : List (Int × Int) × Int) : Bool := hasS x.1 x.2
def f87_e : Entry := { doms := [(false, (.sl (.pair (.int .i64) (.int .i64)))), (false, (.int .i64))], cods := [(false, .bool)], pre := fun _ => True, fn := f87, uq := false, total := true }
def f87_E : Env := [(112, f112_e)]
def f87_A : Anns := { loops := [(1048576, { tms := [(0, .keep), (1, .keep), (5, .data false (.int .i64))], obs := [], fz := [] })], own := [] }
theorem f87_run (a0 : List (Int × Int)) (a1 : Int) (K : Bool → Prop) : runF Try.prog f87_E f87_A 6 Try.f87 f87_e.doms f87_e.cods (a0, a1) K =
    (LoopP (V := Int × Unit) (fun again v => (fun (again1 : Int → Prop) (v1_0 : Int) =>
    br (lenOk (a0.length))
    (br (decide (v1_0 < ((a0.length) : Int)))
    (br (decide (0 ≤ v1_0) && decide (v1_0 < ((a0.length) : Int)))
    (br ((a0.getD v1_0.toNat (0, 0)).1 == a1)
    (K true)
    (again1 (IntKind.i64.wrap (v1_0 + 1))))
    False)
    (K false))
    True)
    (fun v1_0 => again (v1_0, ())) v.1) (0, ())) := by kernel_rfl
theorem f87_t (a0 : List (Int × Int)) (a1 : Int) (K : Bool → Prop) (hK : ∀ y : Bool, y = f87 (a0, a1) → K y) : RunF Try.prog f87_E f87_A 6 Try.f87 f87_e.doms f87_e.cods (a0, a1) K := by
  refine ⟨?_⟩
  rw [f87_run a0 a1 K]
  refine LoopP.up a0.length (fun i _ => ∀ x ∈ a0.take i.toNat, (x.1 == a1) = false) (fun again i v hi0 hn hI hag => ?_) (by omega) all_zero
  dsimp only
  rw [br_true_, lenOk_iff]
  intro hl
  rw [br_dec]
  refine ⟨fun hi => ?_, fun hi => hK _ ?_⟩
  · have hil : i.toNat < a0.length := by omega
    rw [br_false_]
    refine ⟨by simp; omega, ?_⟩
    rw [br_both]
    refine ⟨fun h => hK _ ?_, fun h => ?_⟩
    · have : hasS a0 a1 = true := List.any_eq_true.2 ⟨_, List.getElem_mem hil, by rw [← getD_lt (d := (0, 0)) hil]; exact h⟩
      rw [f87, this]
    · rw [wr (n := i + 1) (by omega) (by omega)]
      exact hag () hi (all_step (d := (0, 0)) hi0 hi hI h)
  · have hall := all_done hi hI
    unfold f87 hasS
    symm
    rw [← Bool.not_eq_true, List.any_eq_true]
    rintro ⟨x, hx, he⟩
    rw [hall x hx] at he
    cases he
theorem f87_fn : f87_e.fn = f87 := rfl
theorem f87_ok : EntryOK Try.prog 87 f87_e := by
  refine entryF progOK (EnvOK.cons f112_ok (EnvOK.nil)) (A := f87_A) (d := 6) Try.func87 rfl rfl rfl rfl (fun _ _ => trivial) fun x hpre => ?_
  obtain ⟨a0, a1⟩ := x
  exact f87_t a0 a1 _ fun _ h => h.trans (congrFun f87_fn.symm _)
end Go.Proofs.Ytglokajinehbmaa
end
