/- What functions of the program compute, each proved once, part 14. -/
import Derived.Test.YtglijnhkdnhofaaGreatPiD
import Derived.Test.YtglijnhkdnhofaaGreatFnA
import Derived.Test.YtglijnhkdnhofaaGreatFnM
import Derived.Test.YtglijnhkdnhofaaGreatFnL

section
namespace Go.Proofs.YtglijnhkdnhofaaGreat
open Go Go.Pi Go.RowKit
set_option maxRecDepth 100000
set_option linter.unusedVariables false
set_option linter.unusedSimpArgs false

def f163 (x : List Int × List Int) : List Int := digs (bv x.1 - bv x.2).toNat
def f163_pre (x : List Int × List Int) : Prop := (Cnl x.1 ∧ Cnl x.2) ∧ x.1.length ≤ 1000 ∧ bv x.2 ≤ bv x.1
def f163_e : Entry := { doms := [(false, (.sl (.int .i64))), (false, (.sl (.int .i64)))], cods := [(false, (.sl (.int .i64)))], pre := f163_pre, fn := f163, uq := false, total := false }
def f163_E : Env := [(174, f174_e), (177, f177_e)]
def f163_A : Anns := { loops := [(1048576, { tms := [(0, .keep), (1, .keep), (5, .ref 1058819), (6, .data false (.int .i64)), (7, .data false (.int .i64))], obs := [(1058819, .arr (.uniq) (.int .i64))], fz := [] })], own := [] }
theorem f163_run (a0 : List Int) (a1 : List Int) (K : (List Int) → Prop) : runF Tryz.prog f163_E f163_A 6 Tryz.f163 f163_e.doms f163_e.cods (a0, a1) K =
    (LoopP (V := Int × Int × List Int × Unit) (fun again v => (fun (again1 : Int → Int → List Int → Prop) (v1_0 : Int) (v1_1 : Int) (v1_2 : List Int) =>
    br (lenOk (a0.length))
    (br (decide (v1_1 < ((a0.length) : Int)))
    (br (decide (0 ≤ v1_1) && decide (v1_1 < ((a0.length) : Int)))
    (f177_pre (a1, v1_1) ∧
    br (decide ((IntKind.i64.wrap ((IntKind.i64.wrap ((a0.getD v1_1.toNat 0) - (f177 (a1, v1_1)))) - v1_0)) < 0))
    (br (roomOk ((v1_2.length) + 1) 8)
    (again1 1 (IntKind.i64.wrap (v1_1 + 1)) (v1_2 ++ ([(IntKind.i64.wrap ((IntKind.i64.wrap ((IntKind.i64.wrap ((a0.getD v1_1.toNat 0) - (f177 (a1, v1_1)))) - v1_0)) + 1000000000))] : List Int)))
    False)
    (br (roomOk ((v1_2.length) + 1) 8)
    (again1 0 (IntKind.i64.wrap (v1_1 + 1)) (v1_2 ++ ([(IntKind.i64.wrap ((IntKind.i64.wrap ((a0.getD v1_1.toNat 0) - (f177 (a1, v1_1)))) - v1_0))] : List Int)))
    False))
    False)
    (f174_pre v1_2 ∧
    K (f174 v1_2)))
    True)
    (fun v1_0 v1_1 v1_2 => again (v1_0, v1_1, v1_2, ())) v.1 v.2.1 v.2.2.1) (0, 0, ([] : List Int), ())) := by kernel_rfl
theorem f163_t (a0 : List Int) (a1 : List Int) (hpre : f163_pre (a0, a1)) (K : (List Int) → Prop) (hK : ∀ y : List Int, y = f163 (a0, a1) → K y) : RunF Tryz.prog f163_E f163_A 6 Tryz.f163 f163_e.doms f163_e.cods (a0, a1) K := by
  refine ⟨?_⟩
  rw [f163_run a0 a1 K]
  obtain ⟨⟨ha, hb⟩, la, hle⟩ := hpre
  dsimp only at ha hb la hle
  have e177 : ∀ (l : List Int) (i : Nat), f177 (l, (i : Int)) = l.getD i 0 := fun l i => by show l.getD (i : Int).toNat 0 = _; rw [Int.toNat_natCast]
  have e174 : ∀ l, f174 l = digs (bv l).toNat := fun _ => rfl
  have lb := hb.mono ha hle
  refine LoopP.of (fun q : Int × Int × List Int × Unit => ∃ i : Nat, q.2.1 = (i : Int) ∧ q.2.2.1.length = i ∧ Dg q.2.2.1 ∧ (q.1 = 0 ∨ q.1 = 1) ∧ bv q.2.2.1 - pw i * q.1 = bv (a0.take i) - bv (a1.take i) ∧ i ≤ a0.length)
    (fun q => a0.length - q.2.1.toNat) (fun again q hq hag => ?_) ⟨0, rfl, rfl, Dg.nil, .inl rfl, rfl, by omega⟩
  obtain ⟨c, iI, out, u⟩ := q
  obtain ⟨i, hi, hlen, hd, hc, hv, hn⟩ := hq
  dsimp only at hi hlen hd hc hv hn
  subst hi
  dsimp only
  rw [e177, Int.toNat_natCast]
  have qa := ha.dg.at i
  have qb := hb.dg.at i
  refine br_weak (br_if (fun h => br_must (inb (by omega) h) ⟨show 0 ≤ (i : Int) by omega, ?_⟩) fun h => ⟨hd, hK _ ?_⟩)
  · have hpd := put_digit out (a0.getD i 0 - a1.getD i 0 - c)
    rw [hlen] at hpd
    have t0 := @bv_take_succ a0 i
    have t1 := @bv_take_succ a1 i
    generalize a0.getD i 0 = x at *
    generalize a1.getD i 0 = y at *
    rw [show IntKind.i64.wrap (x - y) = x - y from wr (by omega) (by omega), show IntKind.i64.wrap (x - y - c) = x - y - c from wr (by omega) (by omega)]
    rw [show IntKind.i64.wrap ((i : Int) + 1) = ((i + 1 : Nat) : Int) by rw [wr (by omega) (by omega)]; omega]
    have room : roomOk (out.length + 1) 8 = true := roomOk_iff.2 (by omega)
    have meas : a0.length - ((i + 1 : Nat) : Int).toNat < a0.length - (i : Int).toNat := by simp only [Int.toNat_natCast]; omega
    have val : ∀ b d : Int, (x - y - c) % 1000000000 = d → (x - y - c) / 1000000000 = -b → bv (out ++ [d]) - pw (i + 1) * b = bv (a0.take (i + 1)) - bv (a1.take (i + 1)) := fun b d hd hb => by
      rw [hd, hb, Int.mul_neg] at hpd
      rw [t0, t1]
      have : pw i * (x - y - c) = pw i * x - pw i * y - pw i * c := by rw [Int.mul_sub, Int.mul_sub]
      omega
    refine br_if (fun h1 => br_must room (hag _ ⟨i + 1, rfl, by simp; omega, hd.snoc ?_, .inr rfl, val 1 _ ?_ (by omega), by omega⟩ meas)) fun h1 => br_must room (hag _ ⟨i + 1, rfl, by simp; omega, hd.snoc ⟨by omega, by omega⟩, .inl rfl, val 0 _ (by omega) (by omega), by omega⟩ meas)
    · rw [wr (by omega) (by omega)]; omega
    · rw [wr (by omega) (by omega)]; omega
  · have hi : i = a0.length := by omega
    subst hi
    rw [take_end (by omega), take_end (by omega)] at hv
    have hr := bv_range hd
    rw [hlen] at hr
    have hc0 : c = 0 := by
      rcases hc with h | h
      · exact h
      · rw [h] at hv; omega
    rw [hc0] at hv
    show f174 out = digs (bv a0 - bv a1).toNat
    rw [e174]
    congr 2
    omega
theorem f163_fn : f163_e.fn = f163 := rfl
theorem f163_ok : EntryOK Tryz.prog 163 f163_e := by
  refine entryF progOK (EnvOK.cons f174_ok (EnvOK.cons f177_ok (EnvOK.nil))) (A := f163_A) (d := 6) Tryz.func163 rfl rfl rfl rfl (fun h => by cases h) fun x hpre => ?_
  obtain ⟨a0, a1⟩ := x
  exact f163_t a0 a1 hpre _ fun _ h => h.trans (congrFun f163_fn.symm _)
end Go.Proofs.YtglijnhkdnhofaaGreat
end

section
namespace Go.Proofs.YtglijnhkdnhofaaGreat
open Go Go.Pi Go.RowKit
set_option maxRecDepth 100000
set_option linter.unusedVariables false
set_option linter.unusedSimpArgs false

def f161 (x : List Int × List Int) : List Int := digs (bv x.1 + bv x.2).toNat
def f161_pre (x : List Int × List Int) : Prop := (Cnl x.1 ∧ Cnl x.2) ∧ x.1.length ≤ 1000 ∧ x.2.length ≤ 1000
def f161_e : Entry := { doms := [(false, (.sl (.int .i64))), (false, (.sl (.int .i64)))], cods := [(false, (.sl (.int .i64)))], pre := f161_pre, fn := f161, uq := false, total := false }
def f161_E : Env := [(177, f177_e)]
def f161_A : Anns := { loops := [(1048576, { tms := [(0, .keep), (1, .keep), (5, .ref 1055748), (6, .data false (.int .i64)), (7, .data false (.int .i64))], obs := [(1055748, .arr (.uniq) (.int .i64))], fz := [] })], own := [] }
theorem f161_run (a0 : List Int) (a1 : List Int) (K : (List Int) → Prop) : runF Tryz.prog f161_E f161_A 6 Tryz.f161 f161_e.doms f161_e.cods (a0, a1) K =
    (LoopP (V := Int × Int × List Int × Unit) (fun again v => (fun (again1 : Int → Int → List Int → Prop) (v1_0 : Int) (v1_1 : Int) (v1_2 : List Int) =>
    br (lenOk (a0.length))
    (br (decide (v1_1 < ((a0.length) : Int)))
    (f177_pre (a0, v1_1) ∧
    f177_pre (a1, v1_1) ∧
    br (roomOk ((v1_2.length) + 1) 8)
    (again1 (IntKind.i64.wrap ((IntKind.i64.wrap ((IntKind.i64.wrap ((f177 (a0, v1_1)) + (f177 (a1, v1_1)))) + v1_0)).tdiv 1000000000)) (IntKind.i64.wrap (v1_1 + 1)) (v1_2 ++ ([((IntKind.i64.wrap ((IntKind.i64.wrap ((f177 (a0, v1_1)) + (f177 (a1, v1_1)))) + v1_0)).tmod 1000000000)] : List Int)))
    False)
    (br (lenOk (a1.length))
    (br (decide (v1_1 < ((a1.length) : Int)))
    (f177_pre (a0, v1_1) ∧
    f177_pre (a1, v1_1) ∧
    br (roomOk ((v1_2.length) + 1) 8)
    (again1 (IntKind.i64.wrap ((IntKind.i64.wrap ((IntKind.i64.wrap ((f177 (a0, v1_1)) + (f177 (a1, v1_1)))) + v1_0)).tdiv 1000000000)) (IntKind.i64.wrap (v1_1 + 1)) (v1_2 ++ ([((IntKind.i64.wrap ((IntKind.i64.wrap ((f177 (a0, v1_1)) + (f177 (a1, v1_1)))) + v1_0)).tmod 1000000000)] : List Int)))
    False)
    (br (decide (v1_0 > 0))
    (f177_pre (a0, v1_1) ∧
    f177_pre (a1, v1_1) ∧
    br (roomOk ((v1_2.length) + 1) 8)
    (again1 (IntKind.i64.wrap ((IntKind.i64.wrap ((IntKind.i64.wrap ((f177 (a0, v1_1)) + (f177 (a1, v1_1)))) + v1_0)).tdiv 1000000000)) (IntKind.i64.wrap (v1_1 + 1)) (v1_2 ++ ([((IntKind.i64.wrap ((IntKind.i64.wrap ((f177 (a0, v1_1)) + (f177 (a1, v1_1)))) + v1_0)).tmod 1000000000)] : List Int)))
    False)
    (K v1_2)))
    True))
    True)
    (fun v1_0 v1_1 v1_2 => again (v1_0, v1_1, v1_2, ())) v.1 v.2.1 v.2.2.1) (0, 0, ([] : List Int), ())) := by kernel_rfl
theorem f161_t (a0 : List Int) (a1 : List Int) (hpre : f161_pre (a0, a1)) (K : (List Int) → Prop) (hK : ∀ y : List Int, y = f161 (a0, a1) → K y) : RunF Tryz.prog f161_E f161_A 6 Tryz.f161 f161_e.doms f161_e.cods (a0, a1) K := by
  refine ⟨?_⟩
  rw [f161_run a0 a1 K]
  obtain ⟨⟨ha, hb⟩, la, lb⟩ := hpre
  dsimp only at ha hb la lb
  have e177 : ∀ (l : List Int) (i : Nat), f177 (l, (i : Int)) = l.getD i 0 := fun l i => by show l.getD (i : Int).toNat 0 = _; rw [Int.toNat_natCast]
  refine LoopP.of (fun q : Int × Int × List Int × Unit => ∃ i : Nat, q.2.1 = (i : Int) ∧ q.2.2.1.length = i ∧ Dg q.2.2.1 ∧ (q.1 = 0 ∨ q.1 = 1) ∧ bv q.2.2.1 + pw i * q.1 = bv (a0.take i) + bv (a1.take i) ∧ (i = 0 ∨ pw (i - 1) ≤ bv a0 + bv a1) ∧ (i ≤ max a0.length a1.length ∨ i = max a0.length a1.length + 1 ∧ q.1 = 0))
    (fun q => max a0.length a1.length + 1 - q.2.1.toNat) (fun again q hq hag => ?_) ⟨0, rfl, rfl, Dg.nil, .inl rfl, rfl, .inl rfl, .inl (by omega)⟩
  obtain ⟨c, iI, out, u⟩ := q
  obtain ⟨i, hi, hlen, hd, hc, hv, ht, hM⟩ := hq
  dsimp only at hi hlen hd hc hv ht hM
  subst hi
  dsimp only
  rw [e177, e177]
  have qa := ha.dg.at i
  have qb := hb.dg.at i
  have go : (i < a0.length ∨ i < a1.length ∨ 0 < c) → f177_pre (a0, (i : Int)) ∧ f177_pre (a1, (i : Int)) ∧ br (roomOk (out.length + 1) 8)
      (again ((IntKind.i64.wrap ((IntKind.i64.wrap ((IntKind.i64.wrap (a0.getD i 0 + a1.getD i 0)) + c)).tdiv 1000000000)), (IntKind.i64.wrap ((i : Int) + 1)), (out ++ [((IntKind.i64.wrap ((IntKind.i64.wrap (a0.getD i 0 + a1.getD i 0)) + c)).tmod 1000000000)]), ())) False := fun hgo => by
    have hs : 0 ≤ a0.getD i 0 + a1.getD i 0 + c ∧ a0.getD i 0 + a1.getD i 0 + c < 2000000000 := by omega
    have iM : i ≤ max a0.length a1.length := by rcases hM with h | h <;> omega
    rw [show IntKind.i64.wrap (a0.getD i 0 + a1.getD i 0) = a0.getD i 0 + a1.getD i 0 from wr (by omega) (by omega)]
    have hpd := put_digit out (a0.getD i 0 + a1.getD i 0 + c)
    have hz : a0.length ≤ i → a0.getD i 0 = 0 := fun h => getD_ge h
    have hz' : a1.length ≤ i → a1.getD i 0 = 0 := fun h => getD_ge h
    have hpos : pw i ≤ bv a0 + bv a1 := by
      have r0 := (bv_range ha.dg).1
      have r1 := (bv_range hb.dg).1
      by_cases h1 : i < a0.length
      · rcases ha.top with e | e
        · rw [e] at h1; simp at h1
        · have := pw_mono (show i ≤ a0.length - 1 by omega); omega
      · by_cases h2 : i < a1.length
        · rcases hb.top with e | e
          · rw [e] at h2; simp at h2
          · have := pw_mono (show i ≤ a1.length - 1 by omega); omega
        · have hc1 : c = 1 := by omega
          rw [take_end (by omega), take_end (by omega), hc1] at hv
          have := (bv_range hd).1
          omega
    have t0 := @bv_take_succ a0 i
    have t1 := @bv_take_succ a1 i
    generalize a0.getD i 0 = x at *
    generalize a1.getD i 0 = y at *
    rw [show IntKind.i64.wrap (x + y + c) = x + y + c from wr (by omega) (by omega), show (x + y + c).tdiv 1000000000 = (x + y + c) / 1000000000 from Int.tdiv_eq_ediv_of_nonneg hs.1, show (x + y + c).tmod 1000000000 = (x + y + c) % 1000000000 from Int.tmod_eq_emod_of_nonneg hs.1]
    rw [show IntKind.i64.wrap ((x + y + c) / 1000000000) = (x + y + c) / 1000000000 from wr (by omega) (by omega), show IntKind.i64.wrap ((i : Int) + 1) = ((i + 1 : Nat) : Int) by rw [wr (by omega) (by omega)]; omega]
    refine ⟨show 0 ≤ (i : Int) by omega, show 0 ≤ (i : Int) by omega, br_must (roomOk_iff.2 (by omega)) (hag _ ⟨i + 1, rfl, by simp; omega, hd.snoc ⟨by omega, by omega⟩, ?_, ?_, .inr hpos, ?_⟩ ?_)⟩
    · show (x + y + c) / 1000000000 = 0 ∨ (x + y + c) / 1000000000 = 1
      omega
    · show bv (out ++ [(x + y + c) % 1000000000]) + pw (i + 1) * ((x + y + c) / 1000000000) = _
      rw [hlen] at hpd
      rw [hpd, t0, t1, Int.mul_add, Int.mul_add]
      omega
    · show i + 1 ≤ max a0.length a1.length ∨ i + 1 = max a0.length a1.length + 1 ∧ (x + y + c) / 1000000000 = 0
      by_cases h : i + 1 ≤ max a0.length a1.length
      · exact .inl h
      · have := hz (by omega)
        have := hz' (by omega)
        exact .inr ⟨by omega, by omega⟩
    · show max a0.length a1.length + 1 - ((i + 1 : Nat) : Int).toNat < max a0.length a1.length + 1 - (i : Int).toNat
      simp only [Int.toNat_natCast]; omega
  refine br_weak (br_if (fun h => go (.inl (by omega))) fun h => br_weak (br_if (fun h2 => go (.inr (.inl (by omega)))) fun h2 => br_if (fun h3 => go (.inr (.inr (by omega)))) fun h3 => hK _ ?_))
  have hc0 : c = 0 := by omega
  rw [take_end (by omega), take_end (by omega), hc0] at hv
  have e : bv out = bv a0 + bv a1 := by omega
  show out = digs (bv a0 + bv a1).toNat
  rw [← e]
  refine (digs_of ⟨hd, ?_⟩).symm
  rcases ht with h0 | h0
  · left; rw [h0] at hlen; exact List.length_eq_zero_iff.1 hlen
  · right; rw [hlen, e]; exact h0
theorem f161_fn : f161_e.fn = f161 := rfl
theorem f161_ok : EntryOK Tryz.prog 161 f161_e := by
  refine entryF progOK (EnvOK.cons f177_ok (EnvOK.nil)) (A := f161_A) (d := 6) Tryz.func161 rfl rfl rfl rfl (fun h => by cases h) fun x hpre => ?_
  obtain ⟨a0, a1⟩ := x
  exact f161_t a0 a1 hpre _ fun _ h => h.trans (congrFun f161_fn.symm _)
end Go.Proofs.YtglijnhkdnhofaaGreat
end

section
namespace Go.Proofs.YtglijnhkdnhofaaGreat
open Go Go.Pi Go.RowKit
set_option maxRecDepth 100000
set_option linter.unusedVariables false
set_option linter.unusedSimpArgs false

def f145 (x : (Int × List Int) × Int × List Int) : Int × List Int := wd (wv x.1 + wv x.2)
def f145_pre (x : (Int × List Int) × Int × List Int) : Prop := WB 900 x.1 ∧ WB 900 x.2
def f145_e : Entry := { doms := [(true, (.pair (.int .i64) (.sl (.int .i64)))), (true, (.pair (.int .i64) (.sl (.int .i64))))], cods := [(true, (.pair (.int .i64) (.sl (.int .i64))))], pre := f145_pre, fn := f145, uq := false, total := false }
def f145_E : Env := [(155, f155_e), (161, f161_e), (162, f162_e), (163, f163_e)]
def f145_A : Anns := { loops := [], own := [] }
theorem f145_run (a0 : Int × List Int) (a1 : Int × List Int) (K : (Int × List Int) → Prop) : runF Tryz.prog f145_E f145_A 6 Tryz.f145 f145_e.doms f145_e.cods (a0, a1) K =
    (br (a0.1 == 0)
    (K a1)
    (br (a1.1 == 0)
    (K a0)
    (br (a0.1 == a1.1)
    (f161_pre (a0.2, a1.2) ∧
    f155_pre (a0.1, (f161 (a0.2, a1.2))) ∧
    K (f155 (a0.1, (f161 (a0.2, a1.2)))))
    (f162_pre (a0.2, a1.2) ∧
    br ((f162 (a0.2, a1.2)) == 0)
    (K (0, ([] : List Int)))
    (br (decide ((f162 (a0.2, a1.2)) > 0))
    (f163_pre (a0.2, a1.2) ∧
    f155_pre (a0.1, (f163 (a0.2, a1.2))) ∧
    K (f155 (a0.1, (f163 (a0.2, a1.2)))))
    (f163_pre (a1.2, a0.2) ∧
    f155_pre (a1.1, (f163 (a1.2, a0.2))) ∧
    K (f155 (a1.1, (f163 (a1.2, a0.2)))))))))) := by kernel_rfl
theorem f145_t (a0 : Int × List Int) (a1 : Int × List Int) (hpre : f145_pre (a0, a1)) (K : (Int × List Int) → Prop) (hK : ∀ y : Int × List Int, y = f145 (a0, a1) → K y) : RunF Tryz.prog f145_E f145_A 6 Tryz.f145 f145_e.doms f145_e.cods (a0, a1) K := by
  refine ⟨?_⟩
  rw [f145_run a0 a1 K]
  obtain ⟨ha, hb⟩ := hpre
  dsimp only at ha hb
  have la := ha.len
  have lb := hb.len
  obtain ⟨ca, va, sa⟩ := ha.can
  obtain ⟨cb, vb, sb⟩ := hb.can
  have ea := ha.eq
  have eb := hb.eq
  have e0 : f145 (a0, a1) = wd (wv a0 + wv a1) := rfl
  have e155 : ∀ (s : Int) (l : List Int), f155 (s, l) = if bv l = 0 then (0, []) else (s, digs (bv l).toNat) := fun _ _ => rfl
  have e161 : f161 (a0.2, a1.2) = digs (bv a0.2 + bv a1.2).toNat := rfl
  have e163 : ∀ a b : List Int, f163 (a, b) = digs (bv a - bv b).toNat := fun _ _ => rfl
  have e162 : f162 (a0.2, a1.2) = if bv a0.2 < bv a1.2 then -1 else if bv a1.2 < bv a0.2 then 1 else 0 := rfl
  rw [e161, e162, e163, e163, sa, sb, va, vb]
  generalize hx : wv a0 = x at *
  generalize hy : wv a1 = y at *
  have fin : ∀ (s : Int) (n : Int), 0 < n → s * n = x + y → (s = 1 ∨ s = -1) → f155_pre (s, digs n.toNat) ∧ K (f155 (s, digs n.toNat)) := fun s n hn he hs => by
    obtain ⟨c, v⟩ := digs_ok n.toNat
    have hv : bv (digs n.toNat) = n := by rw [v]; omega
    refine ⟨c.dg, hK _ ?_⟩
    rw [e155, e0, hv, if_neg (by omega), ← he]
    unfold wd
    rcases hs with rfl | rfl
    · rw [show (1 * n) = n by omega]
      rcases sg_cases n with q | q | q
      · omega
      · omega
      · rw [q.2, show n.natAbs = n.toNat by omega]
    · rw [show (-1 * n) = -n by omega]
      rcases sg_cases (-n) with q | q | q
      · rw [q.2, show (-n).natAbs = n.toNat by omega]
      · omega
      · omega
  refine br_two (fun h => hK _ ?_) fun h => br_two (fun h' => hK _ ?_) fun h' => ?_
  · have h := sg_zero.1 (beq_iff_eq.1 h)
    rw [e0, h, Int.zero_add]; exact eb
  · have h' := sg_zero.1 (beq_iff_eq.1 h')
    rw [e0, h', Int.add_zero]; exact ea
  have h : ¬ x = 0 := fun q => (beq_eq_false_iff_ne.1 h) (sg_zero.2 q)
  have h' : ¬ y = 0 := fun q => (beq_eq_false_iff_ne.1 h') (sg_zero.2 q)
  have hs := sg_cases x
  have ht := sg_cases y
  refine br_two (fun hq => ⟨⟨⟨ca, cb⟩, by show a0.2.length ≤ 1000; omega, by show a1.2.length ≤ 1000; omega⟩, ?_⟩) fun hq => ⟨⟨ca, cb⟩, ?_⟩
  · have hq := beq_iff_eq.1 hq
    refine fin _ _ (by omega) ?_ (by omega)
    rcases hs with q | q | q
    · rw [q.2]; omega
    · omega
    · rw [q.2]; omega
  · have hq := beq_eq_false_iff_ne.1 hq
    have mul1 : ∀ s n : Int, s = 1 ∨ s = -1 → s * n = (if s = 1 then n else -n) := fun s n h => by
      rcases h with rfl | rfl
      · rw [if_pos rfl]; omega
      · rw [if_neg (by decide)]; omega
    by_cases h1 : (x.natAbs : Int) < (y.natAbs : Int)
    · rw [if_pos h1]
      refine br_two (fun q => absurd q (by decide)) fun _ => br_if (fun q => by omega) fun _ => ⟨⟨⟨cb, ca⟩, by show a1.2.length ≤ 1000; omega, by show bv a0.2 ≤ bv a1.2; omega⟩, fin _ _ (by omega) ?_ (by omega)⟩
      rw [mul1 _ _ (by omega)]
      split <;> omega
    · rw [if_neg h1]
      by_cases h2 : (y.natAbs : Int) < (x.natAbs : Int)
      · rw [if_pos h2]
        refine br_two (fun q => absurd q (by decide)) fun _ => br_if (fun q => ⟨⟨⟨ca, cb⟩, by show a0.2.length ≤ 1000; omega, by show bv a1.2 ≤ bv a0.2; omega⟩, fin _ _ (by omega) ?_ (by omega)⟩) fun q => by omega
        rw [mul1 _ _ (by omega)]
        split <;> omega
      · rw [if_neg h2]
        refine br_two (fun _ => hK _ ?_) fun q => absurd q (by decide)
        rw [e0, show x + y = 0 by omega, wd_zero]
theorem f145_fn : f145_e.fn = f145 := rfl
theorem f145_ok : EntryOK Tryz.prog 145 f145_e := by
  refine entryF progOK (EnvOK.cons f155_ok (EnvOK.cons f161_ok (EnvOK.cons f162_ok (EnvOK.cons f163_ok (EnvOK.nil))))) (A := f145_A) (d := 6) Tryz.func145 rfl rfl rfl rfl (fun h => by cases h) fun x hpre => ?_
  obtain ⟨a0, a1⟩ := x
  exact f145_t a0 a1 hpre _ fun _ h => h.trans (congrFun f145_fn.symm _)
end Go.Proofs.YtglijnhkdnhofaaGreat
end

section
namespace Go.Proofs.YtglijnhkdnhofaaGreat
open Go Go.Pi Go.RowKit
set_option maxRecDepth 100000
set_option linter.unusedVariables false
set_option linter.unusedSimpArgs false

def f176 (x : (Int × List Int) × Int × List Int) : Int × List Int := wd (wv x.1 - wv x.2)
def f176_pre (x : (Int × List Int) × Int × List Int) : Prop := WB 900 x.1 ∧ WB 900 x.2
def f176_e : Entry := { doms := [(true, (.pair (.int .i64) (.sl (.int .i64)))), (true, (.pair (.int .i64) (.sl (.int .i64))))], cods := [(true, (.pair (.int .i64) (.sl (.int .i64))))], pre := f176_pre, fn := f176, uq := false, total := false }
def f176_E : Env := [(145, f145_e), (156, f156_e)]
def f176_A : Anns := { loops := [], own := [] }
theorem f176_run (a0 : Int × List Int) (a1 : Int × List Int) (K : (Int × List Int) → Prop) : runF Tryz.prog f176_E f176_A 6 Tryz.f176 f176_e.doms f176_e.cods (a0, a1) K =
    (f156_pre a1 ∧
    f145_pre (a0, (f156 a1)) ∧
    K (f145 (a0, (f156 a1)))) := by kernel_rfl
theorem f176_t (a0 : Int × List Int) (a1 : Int × List Int) (hpre : f176_pre (a0, a1)) (K : (Int × List Int) → Prop) (hK : ∀ y : Int × List Int, y = f176 (a0, a1) → K y) : RunF Tryz.prog f176_E f176_A 6 Tryz.f176 f176_e.doms f176_e.cods (a0, a1) K := by
  refine ⟨?_⟩
  rw [f176_run a0 a1 K]
  obtain ⟨ha, hb⟩ := hpre
  dsimp only at ha hb
  have e156 : f156 a1 = wd (-(wv a1)) := rfl
  have e145 : ∀ a b, f145 (a, b) = wd (wv a + wv b) := fun _ _ => rfl
  rw [e156, e145]
  have := hb.lt
  refine ⟨hb.eq, ⟨ha, wd_WB (by omega)⟩, hK _ ?_⟩
  rw [wv_wd]; rfl
theorem f176_fn : f176_e.fn = f176 := rfl
theorem f176_ok : EntryOK Tryz.prog 176 f176_e := by
  refine entryF progOK (EnvOK.cons f145_ok (EnvOK.cons f156_ok (EnvOK.nil))) (A := f176_A) (d := 6) Tryz.func176 rfl rfl rfl rfl (fun h => by cases h) fun x hpre => ?_
  obtain ⟨a0, a1⟩ := x
  exact f176_t a0 a1 hpre _ fun _ h => h.trans (congrFun f176_fn.symm _)
end Go.Proofs.YtglijnhkdnhofaaGreat
end

section
namespace Go.Proofs.YtglijnhkdnhofaaGreat
open Go Go.Pi Go.RowKit
set_option maxRecDepth 100000
set_option linter.unusedVariables false
set_option linter.unusedSimpArgs false

def f160 (x : (Int × List Int) × Int × List Int) : Int × List Int := wd (wv x.1 / wv x.2)
def f160_pre (x : (Int × List Int) × Int × List Int) : Prop := WB 400 x.1 ∧ WB 200 x.2 ∧ 0 < wv x.2
def f160_e : Entry := { doms := [(true, (.pair (.int .i64) (.sl (.int .i64)))), (true, (.pair (.int .i64) (.sl (.int .i64))))], cods := [(true, (.pair (.int .i64) (.sl (.int .i64))))], pre := f160_pre, fn := f160, uq := false, total := false }
def f160_E : Env := [(142, f142_e), (146, f146_e), (155, f155_e), (162, f162_e), (163, f163_e), (174, f174_e), (176, f176_e)]
def f160_A : Anns := { loops := [(1048576, { tms := [(2, .keep), (3, .keep), (4, .keep), (5, .ref 1051651), (6, .data false (.sl (.int .i64))), (7, .data false (.int .i64))], obs := [(1048576, .keep), (1048577, .keep), (1048578, .keep), (1051651, .arr (.uniq) (.int .i64))], fz := [] }),
  (1048578, { tms := [(2, .keep), (3, .keep), (4, .keep), (5, .keep), (6, .keep), (7, .keep), (8, .data false (.int .i64)), (9, .data false (.int .i64))], obs := [(1048576, .keep), (1048577, .keep), (1048578, .keep), (1051651, .keep)], fz := [] })], own := [] }
theorem f160_run (a0 : Int × List Int) (a1 : Int × List Int) (K : (Int × List Int) → Prop) : runF Tryz.prog f160_E f160_A 6 Tryz.f160 f160_e.doms f160_e.cods (a0, a1) K =
    (br (a0.1 == 0)
    (K (0, ([] : List Int)))
    (br (lenOk (a0.2.length))
    (br (decide (0 ≤ ((a0.2.length) : Int)) && decide (((a0.2.length) : Int) = ((a0.2.length) : Int)) && roomOk (((a0.2.length) : Int).toNat) 8)
    (br (lenOk (a0.2.length))
    (LoopP (V := List Int × Int × List Int × Unit) (fun again v => (fun (again1 : List Int → Int → List Int → Prop) (v1_0 : List Int) (v1_1 : Int) (v1_2 : List Int) =>
    br (decide (v1_1 ≥ 0))
    (br (decide (0 ≤ v1_1) && decide (v1_1 < ((a0.2.length) : Int)))
    (br (roomOk (1 + (v1_0.length)) 8)
    (f174_pre (([(a0.2.getD v1_1.toNat 0)] : List Int) ++ v1_0) ∧
    LoopP (V := Int × Int × Unit) (fun again v => (fun (again2 : Int → Int → Prop) (v2_0 : Int) (v2_1 : Int) =>
    br (decide (v2_0 < v2_1))
    (f155_pre (1, a1.2) ∧
    f142_pre (IntKind.i64.wrap ((IntKind.i64.wrap ((IntKind.i64.wrap (v2_0 + v2_1)) + 1)).tdiv 2)) ∧
    f146_pre ((f155 (1, a1.2)), (f142 (IntKind.i64.wrap ((IntKind.i64.wrap ((IntKind.i64.wrap (v2_0 + v2_1)) + 1)).tdiv 2)))) ∧
    f162_pre ((f146 ((f155 (1, a1.2)), (f142 (IntKind.i64.wrap ((IntKind.i64.wrap ((IntKind.i64.wrap (v2_0 + v2_1)) + 1)).tdiv 2))))).2, (f174 (([(a0.2.getD v1_1.toNat 0)] : List Int) ++ v1_0))) ∧
    br (decide ((f162 ((f146 ((f155 (1, a1.2)), (f142 (IntKind.i64.wrap ((IntKind.i64.wrap ((IntKind.i64.wrap (v2_0 + v2_1)) + 1)).tdiv 2))))).2, (f174 (([(a0.2.getD v1_1.toNat 0)] : List Int) ++ v1_0)))) ≤ 0))
    (again2 (IntKind.i64.wrap ((IntKind.i64.wrap ((IntKind.i64.wrap (v2_0 + v2_1)) + 1)).tdiv 2)) v2_1)
    (again2 v2_0 (IntKind.i64.wrap ((IntKind.i64.wrap ((IntKind.i64.wrap ((IntKind.i64.wrap (v2_0 + v2_1)) + 1)).tdiv 2)) - 1))))
    (br (decide (0 ≤ v1_1) && decide (v1_1 < ((v1_2.length) : Int)))
    (f155_pre (1, a1.2) ∧
    f142_pre v2_0 ∧
    f146_pre ((f155 (1, a1.2)), (f142 v2_0)) ∧
    f163_pre ((f174 (([(a0.2.getD v1_1.toNat 0)] : List Int) ++ v1_0)), (f146 ((f155 (1, a1.2)), (f142 v2_0))).2) ∧
    again1 (f163 ((f174 (([(a0.2.getD v1_1.toNat 0)] : List Int) ++ v1_0)), (f146 ((f155 (1, a1.2)), (f142 v2_0))).2)) (IntKind.i64.wrap (v1_1 - 1)) (v1_2.set v1_1.toNat v2_0))
    False))
    (fun v2_0 v2_1 => again (v2_0, v2_1, ())) v.1 v.2.1) (0, 999999999, ()))
    False)
    False)
    (f155_pre (a0.1, v1_2) ∧
    br (decide (a0.1 < 0))
    (br (lenOk (v1_0.length))
    (br (decide (((v1_0.length) : Int) > 0))
    (f142_pre 1 ∧
    f176_pre ((f155 (a0.1, v1_2)), (f142 1)) ∧
    K (f176 ((f155 (a0.1, v1_2)), (f142 1))))
    (K (f155 (a0.1, v1_2))))
    True)
    (K (f155 (a0.1, v1_2)))))
    (fun v1_0 v1_1 v1_2 => again (v1_0, v1_1, v1_2, ())) v.1 v.2.1 v.2.2.1) (([] : List Int), (IntKind.i64.wrap (((a0.2.length) : Int) - 1)), (List.replicate (((a0.2.length) : Int).toNat) (0 : Int)), ()))
    True)
    False)
    True)) := by kernel_rfl
theorem f160_t (a0 : Int × List Int) (a1 : Int × List Int) (hpre : f160_pre (a0, a1)) (K : (Int × List Int) → Prop) (hK : ∀ y : Int × List Int, y = f160 (a0, a1) → K y) : RunF Tryz.prog f160_E f160_A 6 Tryz.f160 f160_e.doms f160_e.cods (a0, a1) K := by
  refine ⟨?_⟩
  rw [f160_run a0 a1 K]
  obtain ⟨ha, hb, hy⟩ := hpre
  dsimp only at ha hb hy
  have la := ha.len
  obtain ⟨ca, va, sa⟩ := ha.can
  obtain ⟨cb, vb, sb⟩ := hb.can
  have hax := ha.lt
  have hby := hb.lt
  have e0 : f160 (a0, a1) = wd (wv a0 / wv a1) := rfl
  have e155 : ∀ (s : Int) (l : List Int), f155 (s, l) = if bv l = 0 then (0, []) else (s, digs (bv l).toNat) := fun _ _ => rfl
  have e142 : ∀ n, f142 n = wd n := fun _ => rfl
  have e146 : ∀ a b, f146 (a, b) = wd (wv a * wv b) := fun _ _ => rfl
  have e174 : ∀ l, f174 l = digs (bv l).toNat := fun _ => rfl
  have e162 : ∀ a b, f162 (a, b) = if bv a < bv b then -1 else if bv b < bv a then 1 else 0 := fun _ _ => rfl
  have e163 : ∀ a b, f163 (a, b) = digs (bv a - bv b).toNat := fun _ _ => rfl
  have e176 : ∀ a b, f176 (a, b) = wd (wv a - wv b) := fun _ _ => rfl
  have eb : f155 (1, a1.2) = wd (wv a1) := by rw [e155, vb, if_neg (by omega), wd_pos hy]; congr 2; omega
  rw [eb, sa]
  simp only [e142, e146, wv_wd]
  generalize hx : wv a0 = x at *
  generalize hyy : wv a1 = y at *
  generalize a0.2 = da at *
  refine br_two (fun h => hK _ ?_) fun h => ?_
  · rw [e0, sg_zero.1 (beq_iff_eq.1 h), Int.zero_ediv, wd_zero]
  have hx0 : x ≠ 0 := fun q => (beq_eq_false_iff_ne.1 h) (sg_zero.2 q)
  refine br_weak (br_must (by simp; rw [roomOk_iff]; omega) (br_weak ?_))
  rw [show IntKind.i64.wrap ((da.length : Int) - 1) = (da.length : Int) - 1 from wr (by omega) (by omega), Int.toNat_natCast]
  refine LoopP.of (fun q : List Int × Int × List Int × Unit => ∃ (k : Nat) (r : Int), q.2.1 = (k : Int) - 1 ∧ k ≤ da.length ∧ q.1 = digs r.toNat ∧ (0 ≤ r ∧ r < y) ∧ q.2.2.1.length = da.length ∧ Dg q.2.2.1 ∧ bv (da.drop k) = bv (q.2.2.1.drop k) * y + r)
    (fun q => (q.2.1 + 1).toNat) (fun again q hq hag => ?_) ⟨da.length, 0, rfl, by omega, by simp [digs_zero], by omega, by simp, rep_dg _, by rw [List.drop_of_length_le (by omega), List.drop_of_length_le (by simp)]; simp [bv]⟩
  obtain ⟨left, iI, q, u⟩ := q
  obtain ⟨k, r, hk, hkn, hl, hr, q1, q2, q3⟩ := hq
  dsimp only at hk hl q1 q2 q3
  subst hk hl
  dsimp only
  have hdl := digs_cnl r.toNat
  have hdv : bv (digs r.toNat) = r := by rw [digs_bv]; omega
  refine br_if (fun hge => ?_) fun hlt => ?_
  · obtain ⟨i, rfl⟩ : ∃ i, k = i + 1 := ⟨k - 1, by omega⟩
    rw [show (((i + 1 : Nat) : Int) - 1) = (i : Int) by omega]
    have hi : i < da.length := by omega
    have ra := ca.dg.at i
    have hda := @bv_drop da i hi
    have r200 : r < pw 200 := by omega
    have hll : (digs r.toNat).length ≤ 200 := hdl.len_le (by rw [hdv]; exact r200)
    simp only [Int.toNat_natCast]
    generalize hL : da.getD i 0 + 1000000000 * r = L
    have hLv : bv ([da.getD i 0] ++ digs r.toNat) = L := by
      show da.getD i 0 + 1000000000 * bv (digs r.toNat) = L
      rw [hdv]; exact hL
    have hLd : Dg ([da.getD i 0] ++ digs r.toNat) := Dg.cons ra hdl.dg
    have hL0 : 0 ≤ L := by omega
    have hLL : f174 ([da.getD i 0] ++ digs r.toNat) = digs L.toNat := by rw [e174, hLv]
    have hLc : Cnl (f174 ([da.getD i 0] ++ digs r.toNat)) := by rw [hLL]; exact digs_cnl _
    have hLt : bv (digs L.toNat) = L := by rw [digs_bv]; omega
    have hin := inb (i := (i : Int)) (n := da.length) (by omega) (by omega)
    have pm : ∀ m : Int, 0 ≤ m → m < 1000000000 → (0 ≤ y * m ∧ bv (wd (y * m)).2 = y * m) ∧ (WB 400 (wd y) ∧ WB 400 (wd m)) := fun m m0 m1 => by
      have h0 := Int.mul_nonneg (Int.le_of_lt hy) m0
      refine ⟨⟨h0, ?_⟩, ?_, ?_⟩
      · show bv (digs (y * m).natAbs) = _
        rw [digs_bv]; omega
      · exact wd_WB (by have := pw_mono (show 200 ≤ 400 by omega); omega)
      · have : pw 1 = 1000000000 := rfl
        have := pw_mono (show 1 ≤ 400 by omega)
        exact wd_WB (by omega)
    have mono : ∀ m n : Int, m ≤ n → y * m ≤ y * n := fun m n h => Int.mul_le_mul_of_nonneg_left h (Int.le_of_lt hy)
    refine br_must hin (br_must (roomOk_iff.2 (by omega)) ⟨hLd, ?_⟩)
    refine LoopP.of (fun p : Int × Int × Unit => (0 ≤ p.1 ∧ p.1 ≤ p.2.1 ∧ p.2.1 ≤ 999999999) ∧ y * p.1 ≤ L ∧ L < y * (p.2.1 + 1)) (fun p => (p.2.1 - p.1).toNat) (fun again2 p hp hag2 => ?_) ⟨by simp, by simp; omega, ?_⟩
    rotate_left
    · show L < y * (999999999 + 1)
      have := mono 1000000000 1000000000 (Int.le_refl _)
      omega
    obtain ⟨lo, hi', u⟩ := p
    obtain ⟨⟨l0, l1, l2⟩, l3, l4⟩ := hp
    dsimp only at l0 l1 l2 l3 l4 ⊢
    refine br_if (fun hlh => ?_) fun hlh => ?_
    · rw [show IntKind.i64.wrap (lo + hi') = lo + hi' from wr (by omega) (by omega), show IntKind.i64.wrap (lo + hi' + 1) = lo + hi' + 1 from wr (by omega) (by omega), show (lo + hi' + 1).tdiv 2 = (lo + hi' + 1) / 2 from Int.tdiv_eq_ediv_of_nonneg (by omega)]
      generalize hm : (lo + hi' + 1) / 2 = m
      rw [show IntKind.i64.wrap m = m from wr (by omega) (by omega)]
      obtain ⟨⟨m0, m1⟩, m2, m3⟩ := pm m (by omega) (by omega)
      refine ⟨cb.dg, show Fit m from ⟨by omega, by omega⟩, ⟨m2, m3⟩, ⟨digs_cnl _, hLc⟩, ?_⟩
      have e : f162 ((wd (y * m)).2, f174 ([da.getD i 0] ++ digs r.toNat)) = if y * m < L then -1 else if L < y * m then 1 else 0 := by rw [hLL, e162, m1, hLt]
      have up : y * m ≤ L → again2 (m, hi', ()) := fun h => hag2 _ ⟨⟨by simp; omega, by simp; omega, by simp; omega⟩, h, l4⟩ (by simp; omega)
      have dn : L < y * m → again2 (lo, IntKind.i64.wrap (m - 1), ()) := fun h => by
        rw [wr (by omega) (by omega)]
        exact hag2 _ ⟨⟨by simp; omega, by simp; omega, by simp; omega⟩, l3, by show L < y * (m - 1 + 1); rw [show m - 1 + 1 = m by omega]; exact h⟩ (by simp; omega)
      refine br_if (fun q => up ?_) fun q => dn ?_
      · rw [e] at q
        by_cases c1 : y * m < L
        · omega
        · rw [if_neg c1] at q
          by_cases c2 : L < y * m
          · rw [if_pos c2] at q; omega
          · omega
      · rw [e] at q
        by_cases c1 : y * m < L
        · rw [if_pos c1] at q; omega
        · rw [if_neg c1] at q
          by_cases c2 : L < y * m
          · exact c2
          · rw [if_neg c2] at q; omega
    · have hlo : hi' = lo := by omega
      subst hlo
      obtain ⟨⟨m0, m1⟩, m2, m3⟩ := pm hi' (by omega) (by omega)
      rw [Int.mul_add] at l4
      refine br_must (inb (by omega) (by omega)) ⟨cb.dg, show Fit hi' from ⟨by omega, by omega⟩, ⟨m2, m3⟩, ⟨⟨hLc, digs_cnl _⟩, ?_, ?_⟩, ?_⟩
      · show (f174 ([da.getD i 0] ++ digs r.toNat)).length ≤ 1000
        rw [hLL]
        refine Nat.le_trans ((digs_cnl _).len_le (k := 201) ?_) (by omega)
        rw [hLt, pw_succ]; omega
      · show bv (wd (y * hi')).2 ≤ bv (f174 ([da.getD i 0] ++ digs r.toNat))
        rw [hLL, m1, hLt]; exact l3
      rw [show IntKind.i64.wrap ((i : Int) - 1) = (i : Int) - 1 from wr (by omega) (by omega)]
      refine hag _ ⟨i, L - y * hi', rfl, by omega, ?_, ⟨by omega, by omega⟩, by rw [List.length_set]; exact q1, q2.set ⟨by omega, by omega⟩ _, ?_⟩ (by show ((i : Int) - 1 + 1).toNat < (((i + 1 : Nat) : Int) - 1 + 1).toNat; omega)
      · show f163 (f174 ([da.getD i 0] ++ digs r.toNat), (wd (y * hi')).2) = digs (L - y * hi').toNat
        rw [hLL, e163, m1, hLt]
      show bv (da.drop i) = bv ((q.set i hi').drop i) * y + (L - y * hi')
      have hq : bv ((q.set i hi').drop i) = hi' + 1000000000 * bv (q.drop (i + 1)) := by
        rw [bv_drop (by rw [List.length_set]; omega), getD_set, if_pos ⟨rfl, by omega⟩, List.drop_set_of_lt (by omega)]
      rw [hq, hda, q3, Int.add_mul, Int.mul_add, Int.mul_assoc, Int.mul_comm hi' y, ← hL]
      omega
  · have hk : k = 0 := by omega
    subst hk
    simp only [List.drop_zero] at q3
    rw [va] at q3
    have hq0 := bv_nn q2
    have hQ : bv q = (x.natAbs : Int) / y := by
      rw [q3, Int.add_comm, Int.add_mul_ediv_right _ _ (by omega), Int.ediv_eq_zero_of_lt hr.1 hr.2]; omega
    have hQx : bv q ≤ (x.natAbs : Int) := by rw [hQ]; exact Int.ediv_le_self _ (by omega)
    refine ⟨q2, br_if (fun hs => ?_) fun hs => hK _ ?_⟩
    · have hxn : x < 0 := sg_neg.1 hs
      have es : sg x = -1 := by rcases sg_cases x with q | q | q <;> omega
      have ef : f155 (sg x, q) = wd (-(bv q)) := by
        rw [e155, es]
        by_cases c : bv q = 0
        · rw [if_pos c, c]; exact wd_zero.symm
        · rw [if_neg c]; unfold wd
          rcases sg_cases (-(bv q)) with p | p | p
          · rw [p.2]; congr 2; omega
          · omega
          · omega
      rw [ef]
      refine br_weak (br_if (fun hlen => ?_) fun hlen => hK _ ?_)
      · have r0 : 0 < r := by
          refine Classical.byContradiction fun hc => ?_
          rw [show r.toNat = 0 by omega, digs_zero] at hlen; simp at hlen
        rw [e176, wv_wd, wv_wd]
        refine ⟨show Fit 1 from ⟨by omega, by omega⟩, ⟨wd_WB ?_, wd_WB ?_⟩, hK _ ?_⟩
        · have := pw_mono (show 400 ≤ 900 by omega); omega
        · have := pw_mono (show 1 ≤ 900 by omega)
          have : pw 1 = 1000000000 := rfl
          omega
        · rw [e0]
          congr 1
          have e : x = (y - r) + (-(bv q) - 1) * y := by rw [Int.sub_mul, Int.neg_mul]; omega
          rw [e, Int.add_mul_ediv_right _ _ (by omega), Int.ediv_eq_zero_of_lt (by omega) (by omega)]; omega
      · have r0 : r = 0 := by
          refine Classical.byContradiction fun hc => hlen ?_
          have := (digs_cnl r.toNat).pos (fun h => hc (by have := digs_nil.1 h; omega))
          cases hd : digs r.toNat with
          | nil => rw [hd] at this; simp [bv] at this
          | cons a l => simp
        rw [e0]
        congr 1
        have e : x = 0 + (-(bv q)) * y := by rw [Int.neg_mul]; omega
        rw [e, Int.add_mul_ediv_right _ _ (by omega), Int.ediv_eq_zero_of_lt (by omega) (by omega)]; omega
    · have hxp : 0 < x := by rcases sg_cases x with q | q | q <;> omega
      rw [e0, e155]
      rw [show (x.natAbs : Int) = x by omega] at hQ
      rw [← hQ]
      by_cases c : bv q = 0
      · rw [if_pos c, c, wd_zero]
      · rw [if_neg c, wd_pos (by omega)]
        rcases sg_cases x with p | p | p
        · omega
        · omega
        · rw [p.2]
theorem f160_fn : f160_e.fn = f160 := rfl
theorem f160_ok : EntryOK Tryz.prog 160 f160_e := by
  refine entryF progOK (EnvOK.cons f142_ok (EnvOK.cons f146_ok (EnvOK.cons f155_ok (EnvOK.cons f162_ok (EnvOK.cons f163_ok (EnvOK.cons f174_ok (EnvOK.cons f176_ok (EnvOK.nil)))))))) (A := f160_A) (d := 6) Tryz.func160 rfl rfl rfl rfl (fun h => by cases h) fun x hpre => ?_
  obtain ⟨a0, a1⟩ := x
  exact f160_t a0 a1 hpre _ fun _ h => h.trans (congrFun f160_fn.symm _)
end Go.Proofs.YtglijnhkdnhofaaGreat
end

section
namespace Go.Proofs.YtglijnhkdnhofaaGreat
open Go Go.Pi Go.RowKit
set_option maxRecDepth 100000
set_option linter.unusedVariables false
set_option linter.unusedSimpArgs false

def f175 (a : Int × List Int) : Int × List Int := wd ((wv a).natAbs : Int)
def f175_pre (a : Int × List Int) : Prop := WC a
def f175_e : Entry := { doms := [(true, (.pair (.int .i64) (.sl (.int .i64))))], cods := [(true, (.pair (.int .i64) (.sl (.int .i64))))], pre := f175_pre, fn := f175, uq := false, total := false }
def f175_E : Env := [(156, f156_e)]
def f175_A : Anns := { loops := [], own := [] }
theorem f175_run (a0 : Int × List Int) (K : (Int × List Int) → Prop) : runF Tryz.prog f175_E f175_A 6 Tryz.f175 f175_e.doms f175_e.cods a0 K =
    (br (decide (a0.1 < 0))
    (f156_pre a0 ∧
    K (f156 a0))
    (K a0)) := by kernel_rfl
theorem f175_t (a0 : Int × List Int) (hpre : f175_pre a0) (K : (Int × List Int) → Prop) (hK : ∀ y : Int × List Int, y = f175 a0 → K y) : RunF Tryz.prog f175_E f175_A 6 Tryz.f175 f175_e.doms f175_e.cods a0 K := by
  refine ⟨?_⟩
  rw [f175_run a0 K]
  have hc : WC a0 := hpre
  obtain ⟨c, v, s⟩ := hc.of
  refine br_if (fun h => ⟨hc, hK _ ?_⟩) fun h => hK _ ?_
  · rw [s, sg_neg] at h
    show wd (-(wv a0)) = wd _
    congr 1; omega
  · rw [s, sg_neg] at h
    show a0 = wd _
    rw [show ((wv a0).natAbs : Int) = wv a0 by omega]
    exact hc
theorem f175_fn : f175_e.fn = f175 := rfl
theorem f175_ok : EntryOK Tryz.prog 175 f175_e := by
  refine entryF progOK (EnvOK.cons f156_ok (EnvOK.nil)) (A := f175_A) (d := 6) Tryz.func175 rfl rfl rfl rfl (fun h => by cases h) fun x hpre => ?_
  exact f175_t x hpre _ fun _ h => h.trans (congrFun f175_fn.symm _)
end Go.Proofs.YtglijnhkdnhofaaGreat
end

section
namespace Go.Proofs.YtglijnhkdnhofaaGreat
open Go Go.Pi Go.RowKit
set_option maxRecDepth 100000
set_option linter.unusedVariables false
set_option linter.unusedSimpArgs false

def f158 (x : (Int × List Int) × Int × List Int) : Int × List Int := wd ((Nat.gcd (wv x.1).natAbs (wv x.2).natAbs : Nat) : Int)
def f158_pre (x : (Int × List Int) × Int × List Int) : Prop := WB 200 x.1 ∧ WB 200 x.2
def f158_e : Entry := { doms := [(true, (.pair (.int .i64) (.sl (.int .i64)))), (true, (.pair (.int .i64) (.sl (.int .i64))))], cods := [(true, (.pair (.int .i64) (.sl (.int .i64))))], pre := f158_pre, fn := f158, uq := false, total := false }
def f158_E : Env := [(146, f146_e), (157, f157_e), (160, f160_e), (175, f175_e), (176, f176_e)]
def f158_A : Anns := { loops := [(1048576, { tms := [(2, .keep), (3, .keep), (4, .keep)], obs := [(1048576, .cells [.data (.int .i64), .data (.sl (.int .i64))]), (1048577, .cells [.data (.int .i64), .data (.sl (.int .i64))]), (1048578, .keep)], fz := [] })], own := [1053573, 2707685248164858261307045101702230179137145581421695874189921465443966120903931272499975005961073806735733604454495675615286150, 2707687830414736348215634757621402182149019911127488703413434296103322661551553289341169635606427086873565040357667648362779526] }
theorem f158_run (a0 : Int × List Int) (a1 : Int × List Int) (K : (Int × List Int) → Prop) : runF Tryz.prog f158_E f158_A 6 Tryz.f158 f158_e.doms f158_e.cods (a0, a1) K =
    (f175_pre a0 ∧
    f175_pre a1 ∧
    LoopP (V := Int × List Int × Int × List Int × Unit) (fun again v => (fun (again1 : Int → List Int → Int → List Int → Prop) (v1_0 : Int) (v1_1 : List Int) (v1_2 : Int) (v1_3 : List Int) =>
    br ((f157 (v1_2, v1_3)) != 0)
    (f160_pre ((v1_0, v1_1), (v1_2, v1_3)) ∧
    f146_pre ((f160 ((v1_0, v1_1), (v1_2, v1_3))), (v1_2, v1_3)) ∧
    f176_pre ((v1_0, v1_1), (f146 ((f160 ((v1_0, v1_1), (v1_2, v1_3))), (v1_2, v1_3)))) ∧
    again1 v1_2 v1_3 ((f176 ((v1_0, v1_1), (f146 ((f160 ((v1_0, v1_1), (v1_2, v1_3))), (v1_2, v1_3))))).1) ((f176 ((v1_0, v1_1), (f146 ((f160 ((v1_0, v1_1), (v1_2, v1_3))), (v1_2, v1_3))))).2))
    (K (v1_0, v1_1)))
    (fun v1_0 v1_1 v1_2 v1_3 => again (v1_0, v1_1, v1_2, v1_3, ())) v.1 v.2.1 v.2.2.1 v.2.2.2.1) ((f175 a0).1, (f175 a0).2, (f175 a1).1, (f175 a1).2, ())) := by kernel_rfl
theorem f158_t (a0 : Int × List Int) (a1 : Int × List Int) (hpre : f158_pre (a0, a1)) (K : (Int × List Int) → Prop) (hK : ∀ y : Int × List Int, y = f158 (a0, a1) → K y) : RunF Tryz.prog f158_E f158_A 6 Tryz.f158 f158_e.doms f158_e.cods (a0, a1) K := by
  refine ⟨?_⟩
  rw [f158_run a0 a1 K]
  obtain ⟨ha, hb⟩ := hpre
  dsimp only at ha hb
  have hax := ha.lt
  have hby := hb.lt
  have e0 : f158 (a0, a1) = wd ((Nat.gcd (wv a0).natAbs (wv a1).natAbs : Nat) : Int) := rfl
  have e175 : ∀ a, f175 a = wd ((wv a).natAbs : Int) := fun _ => rfl
  have e157 : ∀ a, f157 a = a.1 := fun _ => rfl
  have e160 : ∀ a b, f160 (a, b) = wd (wv a / wv b) := fun _ _ => rfl
  have e146 : ∀ a b, f146 (a, b) = wd (wv a * wv b) := fun _ _ => rfl
  have e176 : ∀ a b, f176 (a, b) = wd (wv a - wv b) := fun _ _ => rfl
  rw [e175, e175]
  refine ⟨ha.eq, hb.eq, ?_⟩
  refine LoopP.of (fun q : Int × List Int × Int × List Int × Unit => ∃ x y : Nat, (q.1, q.2.1) = wd (x : Int) ∧ (q.2.2.1, q.2.2.2.1) = wd (y : Int) ∧ (x : Int) < pw 200 ∧ (y : Int) < pw 200 ∧ Nat.gcd x y = Nat.gcd (wv a0).natAbs (wv a1).natAbs) (fun q => (wv (q.2.2.1, q.2.2.2.1)).natAbs) (fun again q hq hag => ?_) ⟨(wv a0).natAbs, (wv a1).natAbs, rfl, rfl, by omega, by omega, rfl⟩
  obtain ⟨p1, p2, p3, p4, u⟩ := q
  obtain ⟨x, y, h1, h2, h3, h4, h5⟩ := hq
  dsimp only at h1 h2
  dsimp only
  have hm : ∀ n : Nat, (n : Int) < pw 200 → ∀ k, 200 ≤ k → WB k (wd (n : Int)) := fun n hn k hk => wd_WB (by have := pw_mono hk; have := pw_pos k; omega)
  have q1 : p3 = sg (y : Int) := congrArg Prod.fst h2
  have e1 : f157 (p3, p4) = sg (y : Int) := q1
  rw [e1]
  refine br_two (fun h => ?_) fun h => hK _ ?_
  · have hy : y ≠ 0 := fun q => by rw [q] at h; cases h
    simp only [e160, e146, e176]
    rw [h1, h2, wv_wd, wv_wd, wv_wd, wv_wd]
    have hle : (x : Int) / (y : Int) ≤ (x : Int) := Int.ediv_le_self _ (by omega)
    have h0 : 0 ≤ (x : Int) / (y : Int) := Int.ediv_nonneg (by omega) (by omega)
    have hmod : (x : Int) - (x : Int) / (y : Int) * (y : Int) = ((x % y : Nat) : Int) := by
      have := Int.mul_ediv_add_emod (x : Int) (y : Int)
      rw [Int.mul_comm] at this
      push_cast
      omega
    have hmy : x % y < y := Nat.mod_lt _ (by omega)
    have hpr : 0 ≤ (x : Int) / (y : Int) * (y : Int) ∧ (x : Int) / (y : Int) * (y : Int) ≤ (x : Int) := ⟨Int.mul_nonneg h0 (by omega), by omega⟩
    refine ⟨⟨hm x h3 _ (by omega), hm y h4 _ (by omega), by rw [wv_wd]; omega⟩, ⟨wd_WB ?_, hm y h4 _ (by omega)⟩, ⟨hm x h3 _ (by omega), wd_WB ?_⟩, ?_⟩
    · have := pw_mono (show 200 ≤ 400 by omega); omega
    · have := pw_mono (show 200 ≤ 900 by omega); omega
    · rw [hmod]
      refine hag _ ⟨y, x % y, h2, rfl, h4, by omega, ?_⟩ ?_
      · rw [Nat.gcd_comm, ← Nat.gcd_rec, Nat.gcd_comm]; exact h5
      · show (wv (wd ((x % y : Nat) : Int))).natAbs < (wv (p3, p4)).natAbs
        rw [h2, wv_wd, wv_wd]; omega
  · have hy : y = 0 := by
      have := sg_zero.1 (bne_f.1 h); omega
    rw [hy, Nat.gcd_zero_right] at h5
    rw [h1, e0, h5]
theorem f158_fn : f158_e.fn = f158 := rfl
theorem f158_ok : EntryOK Tryz.prog 158 f158_e := by
  refine entryF progOK (EnvOK.cons f146_ok (EnvOK.cons f157_ok (EnvOK.cons f160_ok (EnvOK.cons f175_ok (EnvOK.cons f176_ok (EnvOK.nil)))))) (A := f158_A) (d := 6) Tryz.func158 rfl rfl rfl rfl (fun h => by cases h) fun x hpre => ?_
  obtain ⟨a0, a1⟩ := x
  exact f158_t a0 a1 hpre _ fun _ h => h.trans (congrFun f158_fn.symm _)
end Go.Proofs.YtglijnhkdnhofaaGreat
end

section
namespace Go.Proofs.YtglijnhkdnhofaaGreat
open Go Go.Pi Go.RowKit
set_option maxRecDepth 100000
set_option linter.unusedVariables false
set_option linter.unusedSimpArgs false

def f159 (x : (Int × List Int) × Int × List Int) : Int := sg (wv x.1 - wv x.2)
def f159_pre (x : (Int × List Int) × Int × List Int) : Prop := WB 900 x.1 ∧ WB 900 x.2
def f159_e : Entry := { doms := [(true, (.pair (.int .i64) (.sl (.int .i64)))), (true, (.pair (.int .i64) (.sl (.int .i64))))], cods := [(false, (.int .i64))], pre := f159_pre, fn := f159, uq := false, total := false }
def f159_E : Env := [(176, f176_e)]
def f159_A : Anns := { loops := [], own := [] }
theorem f159_run (a0 : Int × List Int) (a1 : Int × List Int) (K : Int → Prop) : runF Tryz.prog f159_E f159_A 6 Tryz.f159 f159_e.doms f159_e.cods (a0, a1) K =
    (f176_pre (a0, a1) ∧
    K ((f176 (a0, a1)).1)) := by kernel_rfl
theorem f159_t (a0 : Int × List Int) (a1 : Int × List Int) (hpre : f159_pre (a0, a1)) (K : Int → Prop) (hK : ∀ y : Int, y = f159 (a0, a1) → K y) : RunF Tryz.prog f159_E f159_A 6 Tryz.f159 f159_e.doms f159_e.cods (a0, a1) K := by
  refine ⟨?_⟩
  rw [f159_run a0 a1 K]
  exact ⟨hpre, hK _ rfl⟩
theorem f159_fn : f159_e.fn = f159 := rfl
theorem f159_ok : EntryOK Tryz.prog 159 f159_e := by
  refine entryF progOK (EnvOK.cons f176_ok (EnvOK.nil)) (A := f159_A) (d := 6) Tryz.func159 rfl rfl rfl rfl (fun h => by cases h) fun x hpre => ?_
  obtain ⟨a0, a1⟩ := x
  exact f159_t a0 a1 hpre _ fun _ h => h.trans (congrFun f159_fn.symm _)
end Go.Proofs.YtglijnhkdnhofaaGreat
end

section
namespace Go.Proofs.YtglijnhkdnhofaaGreat
open Go Go.Pi Go.RowKit
set_option maxRecDepth 100000
set_option linter.unusedVariables false
set_option linter.unusedSimpArgs false

def f144 (x : (Int × List Int) × Int × List Int) : (Int × List Int) × Int × List Int := (wd (low (wv x.1) (wv x.2)).1, wd (low (wv x.1) (wv x.2)).2)
def f144_pre (x : (Int × List Int) × Int × List Int) : Prop := WB 200 x.1 ∧ WB 200 x.2 ∧ wv x.2 ≠ 0
theorem low_dv {x y : Int} (h : 0 < y) : low x y = (x / (Nat.gcd x.natAbs y.natAbs : Int), y / (Nat.gcd x.natAbs y.natAbs : Int)) := by
  unfold low
  rw [if_neg (by omega)]
  have h1 : (Nat.gcd x.natAbs y.natAbs : Int) ∣ x := Int.ofNat_dvd_left.2 (Nat.gcd_dvd_left _ _)
  rw [Int.tdiv_eq_ediv_of_dvd h1, Int.tdiv_eq_ediv_of_nonneg (by omega)]
theorem low_neg {x y : Int} (h : y < 0) : low x y = low (-x) (-y) := by
  unfold low
  rw [if_pos h, if_neg (by omega), Int.natAbs_neg, Int.natAbs_neg, Int.tdiv_neg, Int.tdiv_neg, Int.neg_tdiv, Int.neg_tdiv]
def f144_e : Entry := { doms := [(true, (.pair (.int .i64) (.sl (.int .i64)))), (true, (.pair (.int .i64) (.sl (.int .i64))))], cods := [(true, (.pair (.pair (.int .i64) (.sl (.int .i64))) (.pair (.int .i64) (.sl (.int .i64)))))], pre := f144_pre, fn := f144, uq := false, total := false }
def f144_E : Env := [(142, f142_e), (156, f156_e), (157, f157_e), (158, f158_e), (159, f159_e), (160, f160_e)]
def f144_A : Anns := { loops := [], own := [] }
theorem f144_run (a0 : Int × List Int) (a1 : Int × List Int) (K : ((Int × List Int) × Int × List Int) → Prop) : runF Tryz.prog f144_E f144_A 6 Tryz.f144 f144_e.doms f144_e.cods (a0, a1) K =
    (br (decide ((f157 a1) < 0))
    (f156_pre a0 ∧
    f156_pre a1 ∧
    f158_pre ((f156 a0), (f156 a1)) ∧
    f142_pre 1 ∧
    f159_pre ((f158 ((f156 a0), (f156 a1))), (f142 1)) ∧
    br ((f159 ((f158 ((f156 a0), (f156 a1))), (f142 1))) == 0)
    (K ((f156 a0), (f156 a1)))
    (f160_pre ((f156 a0), (f158 ((f156 a0), (f156 a1)))) ∧
    f160_pre ((f156 a1), (f158 ((f156 a0), (f156 a1)))) ∧
    K ((f160 ((f156 a0), (f158 ((f156 a0), (f156 a1))))), (f160 ((f156 a1), (f158 ((f156 a0), (f156 a1))))))))
    (f158_pre (a0, a1) ∧
    f142_pre 1 ∧
    f159_pre ((f158 (a0, a1)), (f142 1)) ∧
    br ((f159 ((f158 (a0, a1)), (f142 1))) == 0)
    (K (a0, a1))
    (f160_pre (a0, (f158 (a0, a1))) ∧
    f160_pre (a1, (f158 (a0, a1))) ∧
    K ((f160 (a0, (f158 (a0, a1)))), (f160 (a1, (f158 (a0, a1)))))))) := by kernel_rfl
theorem f144_t (a0 : Int × List Int) (a1 : Int × List Int) (hpre : f144_pre (a0, a1)) (K : ((Int × List Int) × Int × List Int) → Prop) (hK : ∀ y : (Int × List Int) × Int × List Int, y = f144 (a0, a1) → K y) : RunF Tryz.prog f144_E f144_A 6 Tryz.f144 f144_e.doms f144_e.cods (a0, a1) K := by
  refine ⟨?_⟩
  rw [f144_run a0 a1 K]
  obtain ⟨ha, hb, hy⟩ := hpre
  dsimp only at ha hb hy
  obtain ⟨cb, vb, sb⟩ := hb.can
  have hax := ha.lt
  have hby := hb.lt
  have e0 : f144 (a0, a1) = (wd (low (wv a0) (wv a1)).1, wd (low (wv a0) (wv a1)).2) := rfl
  have e157 : f157 a1 = a1.1 := rfl
  have e156 : ∀ a, f156 a = wd (-(wv a)) := fun _ => rfl
  have e142 : f142 1 = wd 1 := rfl
  have e158 : ∀ a b, f158 (a, b) = wd ((Nat.gcd (wv a).natAbs (wv b).natAbs : Nat) : Int) := fun _ _ => rfl
  have e159 : ∀ a b, f159 (a, b) = sg (wv a - wv b) := fun _ _ => rfl
  have e160 : ∀ a b, f160 (a, b) = wd (wv a / wv b) := fun _ _ => rfl
  have ea := ha.eq
  have eb := hb.eq
  have key : ∀ x y : Int, 0 < y → low (wv a0) (wv a1) = low x y → (-pw 200 < x ∧ x < pw 200) → y < pw 200 →
      f158_pre (wd x, wd y) ∧ f142_pre 1 ∧ f159_pre (f158 (wd x, wd y), f142 1) ∧ br (f159 (f158 (wd x, wd y), f142 1) == 0) (K (wd x, wd y))
        (f160_pre (wd x, f158 (wd x, wd y)) ∧ f160_pre (wd y, f158 (wd x, wd y)) ∧ K (f160 (wd x, f158 (wd x, wd y)), f160 (wd y, f158 (wd x, wd y)))) := by
    intro x y h0 hl hx hyl
    rw [e158, e142, e159, e160, e160, wv_wd, wv_wd, wv_wd, wv_wd]
    rw [hl, low_dv h0] at e0
    have hg : 0 < Nat.gcd x.natAbs y.natAbs := Nat.gcd_pos_of_pos_right _ (by omega)
    have hgl : Nat.gcd x.natAbs y.natAbs ≤ y.natAbs := Nat.gcd_le_right _ (by omega)
    generalize Nat.gcd x.natAbs y.natAbs = g at *
    have p1 : pw 1 = 1000000000 := rfl
    have m1 := pw_mono (show 200 ≤ 900 by omega)
    have m2 := pw_mono (show 1 ≤ 900 by omega)
    have m3 := pw_mono (show 200 ≤ 400 by omega)
    refine ⟨⟨wd_WB hx, wd_WB (by omega)⟩, show Fit 1 from ⟨by omega, by omega⟩, ⟨wd_WB (by omega), wd_WB (by omega)⟩, br_two (fun h => hK _ ?_) fun h => ⟨⟨wd_WB (by omega), wd_WB (by omega), by rw [wv_wd]; omega⟩, ⟨wd_WB (by omega), wd_WB (by omega), by rw [wv_wd]; omega⟩, hK _ ?_⟩⟩
    · have := sg_zero.1 (beq_iff_eq.1 h)
      rw [e0, show (g : Int) = 1 by omega, Int.ediv_one, Int.ediv_one]
    · rw [e0]
  rw [e157, sb]
  refine br_if (fun h => ?_) fun h => ?_
  · have h := sg_neg.1 h
    rw [e156, e156]
    exact ⟨ha.eq, hb.eq, key _ _ (by omega) (low_neg h) (by omega) (by omega)⟩
  · have h : 0 < wv a1 := by rcases sg_cases (wv a1) with q | q | q <;> omega
    have := key (wv a0) (wv a1) h rfl hax hby.2
    rw [← ea, ← eb] at this
    exact this
theorem f144_fn : f144_e.fn = f144 := rfl
theorem f144_ok : EntryOK Tryz.prog 144 f144_e := by
  refine entryF progOK (EnvOK.cons f142_ok (EnvOK.cons f156_ok (EnvOK.cons f157_ok (EnvOK.cons f158_ok (EnvOK.cons f159_ok (EnvOK.cons f160_ok (EnvOK.nil))))))) (A := f144_A) (d := 6) Tryz.func144 rfl rfl rfl rfl (fun h => by cases h) fun x hpre => ?_
  obtain ⟨a0, a1⟩ := x
  exact f144_t a0 a1 hpre _ fun _ h => h.trans (congrFun f144_fn.symm _)
end Go.Proofs.YtglijnhkdnhofaaGreat
end

section
namespace Go.Proofs.YtglijnhkdnhofaaGreat
open Go Go.Pi Go.RowKit
set_option maxRecDepth 100000
set_option linter.unusedVariables false
set_option linter.unusedSimpArgs false

def raW (a b : Wd × Wd) : Int × Int := low (wv a.1 * wv b.2 + wv b.1 * wv a.2) (wv a.2 * wv b.2)
def f113 (x : ((Int × List Int) × Int × List Int) × (Int × List Int) × Int × List Int) : (Int × List Int) × Int × List Int := (wd (raW x.1 x.2).1, wd (raW x.1 x.2).2)
/-- A fraction whose parts are small. -/
structure RB (k : Nat) (a : Wd × Wd) : Prop where
  num : WB k a.1
  den : WB k a.2
  pos : 0 < wv a.2
def f113_pre (x : ((Int × List Int) × Int × List Int) × (Int × List Int) × Int × List Int) : Prop := RB 90 x.1 ∧ RB 90 x.2
theorem WB_mul {m n k : Nat} {a b : Wd} (ha : WB m a) (hb : WB n b) (h : m + n ≤ k) : -pw k < wv a * wv b ∧ wv a * wv b < pw k := by
  have la := ha.lt
  have lb := hb.lt
  have := lt_mul (m := m) (n := n) (k := k) (x := (wv a).natAbs) (y := (wv b).natAbs) ⟨by omega, by omega⟩ ⟨by omega, by omega⟩ h
  rw [← Int.natCast_mul, ← Int.natAbs_mul] at this
  omega
def f113_e : Entry := { doms := [(true, (.pair (.pair (.int .i64) (.sl (.int .i64))) (.pair (.int .i64) (.sl (.int .i64))))), (true, (.pair (.pair (.int .i64) (.sl (.int .i64))) (.pair (.int .i64) (.sl (.int .i64)))))], cods := [(true, (.pair (.pair (.int .i64) (.sl (.int .i64))) (.pair (.int .i64) (.sl (.int .i64)))))], pre := f113_pre, fn := f113, uq := false, total := false }
def f113_E : Env := [(144, f144_e), (145, f145_e), (146, f146_e)]
def f113_A : Anns := { loops := [], own := [] }
theorem f113_run (a0 : (Int × List Int) × Int × List Int) (a1 : (Int × List Int) × Int × List Int) (K : ((Int × List Int) × Int × List Int) → Prop) : runF Tryz.prog f113_E f113_A 6 Tryz.f113 f113_e.doms f113_e.cods (a0, a1) K =
    (f146_pre (a0.1, a1.2) ∧
    f146_pre (a1.1, a0.2) ∧
    f145_pre ((f146 (a0.1, a1.2)), (f146 (a1.1, a0.2))) ∧
    f146_pre (a0.2, a1.2) ∧
    f144_pre ((f145 ((f146 (a0.1, a1.2)), (f146 (a1.1, a0.2)))), (f146 (a0.2, a1.2))) ∧
    K (((f144 ((f145 ((f146 (a0.1, a1.2)), (f146 (a1.1, a0.2)))), (f146 (a0.2, a1.2)))).1), ((f144 ((f145 ((f146 (a0.1, a1.2)), (f146 (a1.1, a0.2)))), (f146 (a0.2, a1.2)))).2))) := by kernel_rfl
theorem f113_t (a0 : (Int × List Int) × Int × List Int) (a1 : (Int × List Int) × Int × List Int) (hpre : f113_pre (a0, a1)) (K : ((Int × List Int) × Int × List Int) → Prop) (hK : ∀ y : (Int × List Int) × Int × List Int, y = f113 (a0, a1) → K y) : RunF Tryz.prog f113_E f113_A 6 Tryz.f113 f113_e.doms f113_e.cods (a0, a1) K := by
  refine ⟨?_⟩
  rw [f113_run a0 a1 K]
  obtain ⟨⟨a1, a2, a3⟩, b1, b2, b3⟩ := hpre
  dsimp only at a1 a2 a3 b1 b2 b3
  have e146 : ∀ a b, f146 (a, b) = wd (wv a * wv b) := fun _ _ => rfl
  have e145 : ∀ a b, f145 (a, b) = wd (wv a + wv b) := fun _ _ => rfl
  have e144 : ∀ a b, f144 (a, b) = (wd (low (wv a) (wv b)).1, wd (low (wv a) (wv b)).2) := fun _ _ => rfl
  have q1 := WB_mul a1 b2 (k := 180) (by omega)
  have q2 := WB_mul b1 a2 (k := 180) (by omega)
  have q3 := WB_mul a2 b2 (k := 200) (by omega)
  have q4 := Int.mul_pos a3 b3
  have m1 := pw_mono (show 180 ≤ 900 by omega)
  have m2 : pw 180 + pw 180 ≤ pw 200 := by
    have := pw_mono (show 181 ≤ 200 by omega)
    rw [pw_succ] at this
    have := pw_pos 180
    omega
  simp only [e146, e145, e144, wv_wd]
  refine ⟨⟨a1.mono (by omega), b2.mono (by omega)⟩, ⟨b1.mono (by omega), a2.mono (by omega)⟩, ⟨wd_WB (by omega), wd_WB (by omega)⟩, ⟨a2.mono (by omega), b2.mono (by omega)⟩, ⟨wd_WB (by omega), wd_WB q3, by rw [wv_wd]; omega⟩, hK _ rfl⟩
theorem f113_fn : f113_e.fn = f113 := rfl
theorem f113_ok : EntryOK Tryz.prog 113 f113_e := by
  refine entryF progOK (EnvOK.cons f144_ok (EnvOK.cons f145_ok (EnvOK.cons f146_ok (EnvOK.nil)))) (A := f113_A) (d := 6) Tryz.func113 rfl rfl rfl rfl (fun h => by cases h) fun x hpre => ?_
  obtain ⟨a0, a1⟩ := x
  exact f113_t a0 a1 hpre _ fun _ h => h.trans (congrFun f113_fn.symm _)
end Go.Proofs.YtglijnhkdnhofaaGreat
end

section
namespace Go.Proofs.YtglijnhkdnhofaaGreat
open Go Go.Pi Go.RowKit
set_option maxRecDepth 100000
set_option linter.unusedVariables false
set_option linter.unusedSimpArgs false

def f143 (x : (Int × List Int) × Int × List Int) : (Int × List Int) × Int × List Int := (wd (-(wv x.1)), x.2)
def f143_pre (x : (Int × List Int) × Int × List Int) : Prop := WC x.1
def f143_e : Entry := { doms := [(true, (.pair (.pair (.int .i64) (.sl (.int .i64))) (.pair (.int .i64) (.sl (.int .i64)))))], cods := [(true, (.pair (.pair (.int .i64) (.sl (.int .i64))) (.pair (.int .i64) (.sl (.int .i64)))))], pre := f143_pre, fn := f143, uq := false, total := false }
def f143_E : Env := [(156, f156_e)]
def f143_A : Anns := { loops := [], own := [] }
theorem f143_run (a0 : (Int × List Int) × Int × List Int) (K : ((Int × List Int) × Int × List Int) → Prop) : runF Tryz.prog f143_E f143_A 6 Tryz.f143 f143_e.doms f143_e.cods a0 K =
    (f156_pre a0.1 ∧
    K ((f156 a0.1), a0.2)) := by kernel_rfl
theorem f143_t (a0 : (Int × List Int) × Int × List Int) (hpre : f143_pre a0) (K : ((Int × List Int) × Int × List Int) → Prop) (hK : ∀ y : (Int × List Int) × Int × List Int, y = f143 a0 → K y) : RunF Tryz.prog f143_E f143_A 6 Tryz.f143 f143_e.doms f143_e.cods a0 K := by
  refine ⟨?_⟩
  rw [f143_run a0 K]
  exact ⟨hpre, hK _ rfl⟩
theorem f143_fn : f143_e.fn = f143 := rfl
theorem f143_ok : EntryOK Tryz.prog 143 f143_e := by
  refine entryF progOK (EnvOK.cons f156_ok (EnvOK.nil)) (A := f143_A) (d := 6) Tryz.func143 rfl rfl rfl rfl (fun h => by cases h) fun x hpre => ?_
  exact f143_t x hpre _ fun _ h => h.trans (congrFun f143_fn.symm _)
end Go.Proofs.YtglijnhkdnhofaaGreat
end
