/- What functions of the program compute, each proved once, part 12. -/
import Derived.Test.YtglijnhkdnhofaaPiD
import Derived.Test.YtglijnhkdnhofaaFnA
import Derived.Test.YtglijnhkdnhofaaFnE
import Derived.Test.YtglijnhkdnhofaaFnF
import Derived.Test.YtglijnhkdnhofaaFnJ
import Derived.Test.YtglijnhkdnhofaaFnK
import Derived.Test.YtglijnhkdnhofaaFnG
import Derived.Test.YtglijnhkdnhofaaFnI

namespace Go.Proofs.Ytglijnhkdnhofaa
open Go Go.Pi Go.RowKit
set_option maxRecDepth 100000
set_option linter.unusedVariables false
set_option linter.unusedSimpArgs false

def f8 (x : List ((Int × Int × Int) × Int × Int) × Int × Int × Int × Int) : Bool := true
theorem asc_len : ∀ (n : Nat) (t : List Nat), Asc3 n t → t.length ≤ n := by
  intro n
  induction n with
  | zero =>
    intro t ht
    match t, ht with
    | [], _ => exact Nat.le_refl _
    | a :: r, ht => have := ht.2 a (.head _); omega
  | succ n ih =>
    intro t ht
    match t, ht with
    | [], _ => simp
    | a :: r, ht =>
      have hp := List.pairwise_cons.1 ht.1
      have : Asc3 n (r.map (· - 1)) := ⟨by
        rw [List.pairwise_map]
        refine hp.2.imp_of_mem fun {b c} hb hc hbc => ?_
        have := hp.1 b hb
        omega, fun k hk => by
        obtain ⟨b, hb, rfl⟩ := List.mem_map.1 hk
        have h1 := ht.2 b (.tail _ hb)
        have h2 := hp.1 b hb
        omega⟩
      have := ih _ this
      rw [List.length_map] at this
      simp; omega
abbrev ups (s : List Nat) : List Int := s.map fun n : Nat => (n : Int)
theorem ups_get (s : List Nat) (i : Nat) : (ups s).getD i 0 = ((s.getD i 0 : Nat) : Int) := by
  rw [List.getD_eq_getElem?_getD, List.getD_eq_getElem?_getD, List.getElem?_map]
  cases s[i]? <;> rfl
theorem pick_ups (l : List Rd) (s : List Nat) : pickI l (ups s) = pick3 l s := by
  unfold pickI pick3
  rw [List.map_map]
  exact List.map_congr_left fun k _ => by simp
theorem agQ_pick {l : List Rd} {s : List Nat} (h : Asc3 l.length s) {p : V3} {q : Int} (ha : agQ l p q) : agQ (pick3 l s) p q := fun r hr => ha r (pick3_mem h r hr)
theorem con_no {l : List Rd} {x : Fnd} (h : conL l = some x) {p : V3} {q : Int} (hq : 0 < q) : ¬ agQ l p q := fun ha => T_no (conL_some h).t hq (agQ_pick (conL_some h).asc ha)
theorem con_yes {l : List Rd} (h : RdOK l) (hc : conL l = none) : ∃ p q, 0 < q ∧ agQ l p q := Classical.byContradiction fun hn => by
  obtain ⟨s, f, h1, h2, h3, h4⟩ := T_found (fun r hr => (h.rng r hr).2.1) (fun r hr => (h.dir r hr).2) hn
  rw [conL_none hc h1 h2 h3] at h4; cases h4
/-- The contradiction is accepted. -/
theorem con_ok {l : List Rd} (h : RdOK l) {x : Fnd} (hc : Con l x) : prfE l (ups x.1) x.2 = 0 := by
  have ht := T_some hc.t
  have hlen : x.2.length = x.1.length := by rw [T_len hc.t, pick3_len]
  have hlo := hc.lo
  have hul : (ups x.1).length = x.1.length := by rw [List.length_map]
  have z1 : (eachE (ups x.1).length (rdIx l.length (ups x.1))).2 = 0 := by
    rw [eachE_none fun i hi => ?_]
    rw [hul] at hi
    unfold rdIx
    rw [ups_get, ups_get]
    have b1 := hc.asc.2 (x.1.getD i 0) (by rw [getD_lt hi]; exact List.getElem_mem _)
    rw [if_neg (fun hh => hh ⟨by omega, by omega⟩)]
    refine if_neg fun hh => ?_
    have hp := List.pairwise_iff_getElem.1 hc.asc.1 (i - 1) i (by omega) hi (by omega)
    rw [getD_lt hi, getD_lt (show i - 1 < x.1.length by omega)] at hh
    omega
  have z2 : (eachE x.2.length (fcIx x.2)).2 = 0 := by
    rw [eachE_none fun i hi => ?_]
    unfold fcIx
    refine if_pos (relL_le (l := dirs (pick3 l x.1)) (fun v hv => ?_) _ (by rw [ht.2.2]; rw [getD_lt hi]; exact List.getElem_mem _))
    obtain ⟨r, hr, rfl⟩ := List.mem_map.1 hv
    exact (h.dir r (pick3_mem hc.asc r hr)).1
  have hz : combI l (ups x.1) x.2 = z3 := by
    unfold combI
    rw [pick_ups]; exact ht.1.zero
  unfold prfE
  rw [if_neg (by omega), if_neg (fun hh => hh z1), if_neg (fun hh => hh z2), if_neg (fun hh => hh hz), pick_ups, if_pos ht.2.1]
def oth (l : List Rd) (s : List Nat) (i k : Nat) : List Rd := pick3 l ((s.take k).eraseIdx i)
theorem take_snocN {s : List Nat} {k : Nat} (h : k < s.length) : s.take (k + 1) = s.take k ++ [s.getD k 0] := by
  rw [List.take_add_one, List.getElem?_eq_getElem h, getD_lt h]; rfl
theorem oth_skip (l : List Rd) {s : List Nat} {k : Nat} (h : k < s.length) : oth l s k (k + 1) = oth l s k k := by
  unfold oth
  have hl : (s.take k).length = k := by rw [List.length_take]; omega
  rw [take_snocN h, List.eraseIdx_append_of_length_le (by omega), hl, Nat.sub_self, List.eraseIdx_of_length_le (show (s.take k).length ≤ k by omega)]
  simp
theorem oth_more (l : List Rd) {s : List Nat} {i k : Nat} (h : k < s.length) (hi : k ≠ i) : oth l s i (k + 1) = oth l s i k ++ [l.getD (s.getD k 0) rd0] := by
  unfold oth
  have hl : (s.take k).length = k := by rw [List.length_take]; omega
  have e : pick3 l [s.getD k 0] = [l.getD (s.getD k 0) rd0] := rfl
  have ea : ∀ a b, pick3 l (a ++ b) = pick3 l a ++ pick3 l b := fun a b => by unfold pick3; exact List.map_append
  rw [take_snocN h, ← e, ← ea]
  congr 1
  by_cases hik : i < k
  · rw [List.eraseIdx_append_of_lt_length (by omega)]
  · rw [List.eraseIdx_append_of_length_le (by omega), hl, List.eraseIdx_of_length_le (show (s.take k).length ≤ i by omega), List.eraseIdx_of_length_le (by simp; omega)]
theorem first_ok {c t : Int} {h : Bool} {J : Bool → Prop} {e : Int} (hc : c = 0 ∨ c = 12) (ht : t = 0 ∨ t = 12 ∨ t = 19) (he : e = 0) (hh : h = true → c = 12) (hJ : J false) :
    br (c != 0) (br (c != 12) (J true) (br (t != 0) (br (t != 12) (br (t != 19) (J true) (br (e != 0) (J true) (br h (J (c == 0)) (J false)))) (br (e != 0) (J true) (br h (J (c == 0)) (J false)))) (br (e != 0) (J true) (br h (J (c == 0)) (J false)))))
      (br (t != 0) (br (t != 12) (br (t != 19) (J true) (br (e != 0) (J true) (br h (J (c == 0)) (J false)))) (br (e != 0) (J true) (br h (J (c == 0)) (J false)))) (br (e != 0) (J true) (br h (J (c == 0)) (J false)))) := by
  have hY : br (e != 0) (J true) (br h (J (c == 0)) (J false)) := br_two (fun q => absurd he (bne_iff_ne.1 q)) fun _ => br_two (fun q => by rw [hh q]; exact hJ) fun _ => hJ
  have hX : br (t != 0) (br (t != 12) (br (t != 19) (J true) (br (e != 0) (J true) (br h (J (c == 0)) (J false)))) (br (e != 0) (J true) (br h (J (c == 0)) (J false)))) (br (e != 0) (J true) (br h (J (c == 0)) (J false))) :=
    br_two (fun q1 => br_two (fun q2 => br_two (fun q3 => by have := bne_iff_ne.1 q1; have := bne_iff_ne.1 q2; have := bne_iff_ne.1 q3; omega) fun _ => hY) fun _ => hY) fun _ => hY
  exact br_two (fun q1 => br_two (fun q2 => by have := bne_iff_ne.1 q1; have := bne_iff_ne.1 q2; omega) fun _ => hX) fun _ => hX
def f8_e : Entry := { doms := [(false, (.sl (.pair (.pair (.int .i64) (.pair (.int .i64) (.int .i64))) (.pair (.int .i64) (.int .i64))))), (true, (.pair (.int .i64) (.pair (.int .i64) (.pair (.int .i64) (.int .i64)))))], cods := [(false, .bool)], pre := fun _ => True, fn := f8, uq := false, total := true }
def f8_E : Env := [(10, f10_e), (21, f21_e), (23, f23_e), (31, f31_e), (32, f32_e), (33, f33_e), (44, f44_e), (45, f45_e), (46, f46_e), (47, f47_e), (48, f48_e)]
def f8_A : Anns := { loops := [(1048576, { tms := [(0, .keep), (5, .keep), (13, .data false (.int .i64))], obs := [(1053702, .keep)], fz := [] }),
  (1048578, { tms := [(0, .keep), (5, .keep), (13, .keep), (14, .ref 1076234), (15, .data false (.int .i64))], obs := [(1053702, .keep), (1076234, .arr (.uniq) (.pair (.pair (.int .i64) (.pair (.int .i64) (.int .i64))) (.pair (.int .i64) (.int .i64))))], fz := [] }),
  (1572900, { tms := [(0, .keep), (5, .keep), (6, .keep), (7, .keep), (8, .keep), (80, .data false .bool)], obs := [(1053702, .keep)], fz := [] }),
  (1572913, { tms := [(0, .keep), (5, .keep), (6, .keep)], obs := [(1053702, .keep)], fz := [] }),
  (1572933, { tms := [(0, .keep), (5, .keep)], obs := [(1053702, .keep)], fz := [] })], own := [] }
theorem f8_run (a0 : List ((Int × Int × Int) × Int × Int)) (a1 : Int × Int × Int × Int) (K : Bool → Prop) : runF Try.prog f8_E f8_A 6 Try.f8 f8_e.doms f8_e.cods (a0, a1) K =
    (br (!(f10 ()))
    (K false)
    (br (!(f21 a0))
    (K true)
    (br ((f32 a0) != 0)
    (K true)
    (br ((f33 a1) != 0)
    (K true)
    (f23_pre a0 ∧
    f23_pre a0 ∧
    f23_pre a0 ∧
    JoinQ (V := Bool × Unit) (fun J => (fun (join1 : Bool → Prop) =>
    br ((f44 (f23 a0)).2 != 0)
    (br ((f44 (f23 a0)).2 != 12)
    (join1 true)
    (br ((f45 (f23 a0)).2 != 0)
    (br ((f45 (f23 a0)).2 != 12)
    (br ((f45 (f23 a0)).2 != 19)
    (join1 true)
    (br ((f31 ((f23 a0), a1)).2 != 0)
    (join1 true)
    (br (f31 ((f23 a0), a1)).1
    (join1 ((f44 (f23 a0)).2 == 0))
    (join1 false))))
    (br ((f31 ((f23 a0), a1)).2 != 0)
    (join1 true)
    (br (f31 ((f23 a0), a1)).1
    (join1 ((f44 (f23 a0)).2 == 0))
    (join1 false))))
    (br ((f31 ((f23 a0), a1)).2 != 0)
    (join1 true)
    (br (f31 ((f23 a0), a1)).1
    (join1 ((f44 (f23 a0)).2 == 0))
    (join1 false)))))
    (br ((f45 (f23 a0)).2 != 0)
    (br ((f45 (f23 a0)).2 != 12)
    (br ((f45 (f23 a0)).2 != 19)
    (join1 true)
    (br ((f31 ((f23 a0), a1)).2 != 0)
    (join1 true)
    (br (f31 ((f23 a0), a1)).1
    (join1 ((f44 (f23 a0)).2 == 0))
    (join1 false))))
    (br ((f31 ((f23 a0), a1)).2 != 0)
    (join1 true)
    (br (f31 ((f23 a0), a1)).1
    (join1 ((f44 (f23 a0)).2 == 0))
    (join1 false))))
    (br ((f31 ((f23 a0), a1)).2 != 0)
    (join1 true)
    (br (f31 ((f23 a0), a1)).1
    (join1 ((f44 (f23 a0)).2 == 0))
    (join1 false))))) (fun j1_0 => J (j1_0, ()))) (fun v => (fun (j1_0 : Bool) =>
    br j1_0
    (K false)
    (JoinQ (V := Unit) (fun J => (fun (join2 : Prop) =>
    br ((f45 (f23 a0)).2 == 0)
    (br ((f44 (f23 a0)).2 == 0)
    (K false)
    (br (lenOk (((f45 (f23 a0)).1).length))
    (br (((((f45 (f23 a0)).1).length) : Int) == 0)
    (K false)
    (br ((f45 (f23 a0)).2 == 12)
    (br ((f44 (f23 a0)).2 != 0)
    (K false)
    (join2))
    (join2)))
    True))
    (br ((f45 (f23 a0)).2 == 12)
    (br ((f44 (f23 a0)).2 != 0)
    (K false)
    (join2))
    (join2))) (J ())) (fun v =>
    br ((f44 (f23 a0)).2 != 0)
    (K true)
    (f23_pre a0 ∧
    f47_pre ((f44 (f23 a0)).1) ∧
    f46_pre ((f23 a0), (f47 ((f44 (f23 a0)).1))) ∧
    JoinQ (V := Unit) (fun J => (fun (join3 : Prop) =>
    br ((f46 ((f23 a0), (f47 ((f44 (f23 a0)).1)))).2 != 0)
    (K false)
    (br (decide (((f46 ((f23 a0), (f47 ((f44 (f23 a0)).1)))).1).1 ≤ 0))
    (br (decide (((f46 ((f23 a0), (f47 ((f44 (f23 a0)).1)))).1).2 ≥ 0))
    (K false)
    (br (lenOk ((((f44 (f23 a0)).1).1).length))
    (br (lenOk (a0.length))
    (br (decide ((((((f44 (f23 a0)).1).1).length) : Int) > ((a0.length) : Int)))
    (K false)
    (br (lenOk ((((f44 (f23 a0)).1).2).length))
    (br (lenOk ((((f44 (f23 a0)).1).1).length))
    (br ((((((f44 (f23 a0)).1).2).length) : Int) != (((((f44 (f23 a0)).1).1).length) : Int))
    (K false)
    (f48_pre (a0, ((f44 (f23 a0)).1)) ∧
    br ((f48 (a0, ((f44 (f23 a0)).1))) != 0)
    (K false)
    (join3)))
    True)
    True))
    True)
    True))
    (br (lenOk ((((f44 (f23 a0)).1).1).length))
    (br (lenOk (a0.length))
    (br (decide ((((((f44 (f23 a0)).1).1).length) : Int) > ((a0.length) : Int)))
    (K false)
    (br (lenOk ((((f44 (f23 a0)).1).2).length))
    (br (lenOk ((((f44 (f23 a0)).1).1).length))
    (br ((((((f44 (f23 a0)).1).2).length) : Int) != (((((f44 (f23 a0)).1).1).length) : Int))
    (K false)
    (f48_pre (a0, ((f44 (f23 a0)).1)) ∧
    br ((f48 (a0, ((f44 (f23 a0)).1))) != 0)
    (K false)
    (join3)))
    True)
    True))
    True)
    True))) (J ())) (fun v =>
    LoopP (V := Int × Unit) (fun again v => (fun (again4 : Int → Prop) (v4_0 : Int) =>
    br (lenOk ((((f44 (f23 a0)).1).1).length))
    (br (decide (v4_0 < (((((f44 (f23 a0)).1).1).length) : Int)))
    (br (decide (0 ≤ v4_0) && decide (v4_0 < (((((f44 (f23 a0)).1).2).length) : Int)))
    (br (((((f44 (f23 a0)).1).2).getD v4_0.toNat 0) == 0)
    (K false)
    (LoopP (V := Int × List ((Int × Int × Int) × Int × Int) × Unit) (fun again v => (fun (again5 : Int → List ((Int × Int × Int) × Int × Int) → Prop) (v5_0 : Int) (v5_1 : List ((Int × Int × Int) × Int × Int)) =>
    br (lenOk ((((f44 (f23 a0)).1).1).length))
    (br (decide (v5_0 < (((((f44 (f23 a0)).1).1).length) : Int)))
    (br (v5_0 != v4_0)
    (br (decide (0 ≤ v5_0) && decide (v5_0 < (((((f44 (f23 a0)).1).1).length) : Int)))
    (br (decide (0 ≤ ((((f44 (f23 a0)).1).1).getD v5_0.toNat 0)) && decide (((((f44 (f23 a0)).1).1).getD v5_0.toNat 0) < ((a0.length) : Int)))
    (br (roomOk ((v5_1.length) + 1) 40)
    (again5 (IntKind.i64.wrap (v5_0 + 1)) (v5_1 ++ ([((((a0.getD (((((f44 (f23 a0)).1).1).getD v5_0.toNat 0).toNat) ((0, (0, 0)), (0, 0))).1).1, (((a0.getD (((((f44 (f23 a0)).1).1).getD v5_0.toNat 0).toNat) ((0, (0, 0)), (0, 0))).1).2)), ((a0.getD (((((f44 (f23 a0)).1).1).getD v5_0.toNat 0).toNat) ((0, (0, 0)), (0, 0))).2))] : List ((Int × Int × Int) × Int × Int))))
    False)
    False)
    False)
    (again5 (IntKind.i64.wrap (v5_0 + 1)) v5_1))
    (br (lenOk (v5_1.length))
    (br (decide (((v5_1.length) : Int) > 0))
    (br ((f44 v5_1).2 != 12)
    (K false)
    (again4 (IntKind.i64.wrap (v4_0 + 1))))
    (again4 (IntKind.i64.wrap (v4_0 + 1))))
    True))
    True)
    (fun v5_0 v5_1 => again (v5_0, v5_1, ())) v.1 v.2.1) (0, ([] : List ((Int × Int × Int) × Int × Int)), ())))
    False)
    (K true))
    True)
    (fun v4_0 => again (v4_0, ())) v.1) (0, ())))))) v.1)))))) := by kernel_rfl
theorem f8_t (a0 : List ((Int × Int × Int) × Int × Int)) (a1 : Int × Int × Int × Int) (K : Bool → Prop) (hK : ∀ y : Bool, y = f8 (a0, a1) → K y) : RunF Try.prog f8_E f8_A 6 Try.f8 f8_e.doms f8_e.cods (a0, a1) K := by
  refine ⟨?_⟩
  rw [f8_run a0 a1 K]
  have e10 : f10 () = true := rfl
  have hT : K true := hK _ rfl
  have e21 : f21 a0 = decide (a0.length ≤ 8) := rfl
  have e23 : ∀ l, f23 l = l := fun _ => rfl
  have e32 : f32 a0 = (rdOf a0).2 := rfl
  have e33 : ∀ v, f33 v = windE v := fun _ => rfl
  have e44 : ∀ l, f44 l = conW l := fun _ => rfl
  have e45 : ∀ l, f45 l = vtxW l := fun _ => rfl
  have e47 : ∀ x, f47 x = x := fun _ => rfl
  have e46 : ∀ l x, f46 (l, x) = chkW l x := fun _ _ => rfl
  have e48 : ∀ l x, f48 (l, x) = prfE l x.1 x.2 := fun _ _ => rfl
  simp only [e23, e32, e33, e44, e45, e47, e46, e48]
  rw [e10, e21]
  refine br_two (fun h => by cases h) fun _ => br_two (fun _ => hT) fun h9 => ?_
  have hl : a0.length ≤ 8 := by simpa using h9
  refine br_two (fun _ => hT) fun h24 => br_two (fun _ => hT) fun hw => ?_
  have h24 : (rdOf a0).2 = 0 := bne_f.1 h24
  have hw : windE a1 = 0 := bne_f.1 hw
  have rok := rdOf_ok h24
  have h6 := rok.six
  have hle := rok.rdLe
  have p23 : f23_pre a0 := show a0.length ≤ 1048576 by omega
  refine ⟨p23, p23, p23, ?_⟩
  have e31 : f31 (a0, a1) = (a0.all (agR · a1), 0) := by
    unfold f31
    rw [if_neg (fun hh => hh h24), if_neg (fun hh => hh hw)]
  rw [e31]
  have hno : ∀ x, conL a0 = some x → ∀ v ∈ vtx a0, False := fun x hx v hv => con_no hx (vtx_is hle hv).den (vtx_is hle hv).ag
  have hc : (conW a0).2 = 0 ∧ (∃ x, conL a0 = some x ∧ conW a0 = ((ups x.1, x.2), 0)) ∨ (conW a0).2 = 12 ∧ conL a0 = none := by
    unfold conW
    rw [if_neg (fun hh => hh h24)]
    cases hx : conL a0 with
    | none => exact .inr ⟨rfl, rfl⟩
    | some x => exact .inl ⟨rfl, x, rfl, rfl⟩
  have ht : (vtxW a0).2 = 0 ∧ (vtxW a0).1.length ≠ 0 ∧ conL a0 = none ∨ (vtxW a0).2 = 12 ∧ (conW a0).2 = 0 ∨ (vtxW a0).2 = 19 := by
    unfold vtxW
    rw [if_neg (fun hh => hh h24)]
    by_cases h3 : (rkOwn (a0.map (·.1))).length = 3
    · rw [if_neg (fun hh => hh h3)]
      by_cases hz : (vtx a0).length = 0
      · rw [if_pos hz]
        refine .inr (.inl ⟨rfl, ?_⟩)
        rcases hc with hc | hc
        · exact hc.1
        · obtain ⟨p, q, hq, ha⟩ := con_yes rok hc.2
          obtain ⟨v, hv, _⟩ := lp rok h3 hq ha z3
          have := List.length_pos_of_mem hv
          omega
      · rw [if_neg hz]
        refine .inl ⟨rfl, hz, ?_⟩
        cases hx : conL a0 with
        | none => rfl
        | some x =>
          obtain ⟨v, hv⟩ := List.exists_mem_of_length_pos (show 0 < (vtx a0).length by omega)
          exact (hno x hx v hv).elim
    · rw [if_pos h3]; exact .inr (.inr rfl)
  have hag : a0.all (agR · a1) = true → conL a0 = none := fun hh => by
    cases hx : conL a0 with
    | none => rfl
    | some x =>
      obtain ⟨⟨d1, d2⟩, hv, _⟩ := windE_zero hw
      exact (con_no hx (by omega) ((agR_ok hle hv (by omega) (by omega)).1 hh)).elim
  refine JoinQ.use (fun v : Bool × Unit => v.1 = false) (fun G hG => ?_) fun v hv => ?_
  · refine first_ok (c := (conW a0).2) (t := (vtxW a0).2) (h := a0.all (agR · a1)) (J := fun b => G (b, ())) (e := 0) ?_ ?_ rfl (fun hh => ?_) (hG _ rfl)
    · rcases hc with hc | hc
      · exact .inl hc.1
      · exact .inr hc.1
    · rcases ht with h | h | h
      · exact .inl h.1
      · exact .inr (.inl h.1)
      · exact .inr (.inr h)
    · rcases hc with ⟨_, x, hx, _⟩ | hc
      · rw [hag hh] at hx; cases hx
      · exact hc.1
  obtain ⟨v, _⟩ := v
  dsimp only at hv ⊢
  subst hv
  refine br_two (fun h => by cases h) fun _ => ?_
  refine JoinQ.use0 True (fun G hG => ?_) fun _ => ?_
  · have hX : br ((vtxW a0).2 == 12) (br ((conW a0).2 != 0) (K false) (G ())) (G ()) := br_two (fun q => br_two (fun q2 => by
        have q := beq_iff_eq.1 q
        have q2 := bne_iff_ne.1 q2
        rcases ht with h | h | h
        · omega
        · exact absurd h.2 q2
        · omega) fun _ => hG trivial) fun _ => hG trivial
    refine br_two (fun q => ?_) fun _ => hX
    have q := beq_iff_eq.1 q
    have hn : (vtxW a0).1.length ≠ 0 ∧ conL a0 = none := by
      rcases ht with h | h | h
      · exact h.2
      · omega
      · omega
    refine br_two (fun q2 => ?_) fun _ => br_weak (br_two (fun q3 => ?_) fun _ => hX)
    · have q2 := beq_iff_eq.1 q2
      rcases hc with ⟨_, x, hx, _⟩ | hc
      · rw [hn.2] at hx; cases hx
      · omega
    · exact absurd (beq_iff_eq.1 q3) (by omega)
  refine br_two (fun _ => hT) fun q => ?_
  have q := bne_f.1 q
  obtain ⟨x, hx, ex⟩ : ∃ x, conL a0 = some x ∧ conW a0 = ((ups x.1, x.2), 0) := by
    rcases hc with hc | hc
    · exact hc.2
    · omega
  rw [ex]
  clear hc ht hag hno q ex
  have hC := conL_some hx
  have hlo := hC.lo
  have hhi := hC.hi
  have hlen : x.2.length = x.1.length := by rw [T_len hC.t, pick3_len]
  have hul : (ups x.1).length = x.1.length := by rw [List.length_map]
  have hp0 := con_ok rok hC
  have hxa := asc_len _ _ hC.asc
  have hne := hC.ne fun r hr => (rok.dir r hr).2
  have hap := (T_some hC.t).2.1
  dsimp only
  refine ⟨p23, ⟨show (ups x.1).length ≤ 1048576 by omega, show x.2.length ≤ 1048576 by omega⟩, ⟨show (ups x.1).length ≤ 1000 by omega, show x.2.length ≤ 1000 by omega⟩, ?_⟩
  have ech : chkW a0 (ups x.1, x.2) = (totL (pick3 a0 x.1) x.2, 0) := by
    unfold chkW
    rw [if_neg (fun hh => hh h24), if_neg (fun hh => hh hp0), pick_ups]
  rw [ech, hp0]
  generalize totL (pick3 a0 x.1) x.2 = t at hap
  refine JoinQ.use0 True (fun G hG => ?_) fun _ => ?_
  · dsimp only
    refine br_two (fun q => by cases q) fun _ => ?_
    have hX : br (decide ((((ups x.1).length : Nat) : Int) > ((a0.length : Nat) : Int))) (K false) (br (lenOk x.2.length) (br (lenOk (ups x.1).length) (br (((x.2.length : Nat) : Int) != (((ups x.1).length : Nat) : Int)) (K false) (f48_pre (a0, (ups x.1, x.2)) ∧ br ((0 : Int) != 0) (K false) (G ()))) True) True) :=
      br_if (fun h => by rw [hul] at h; omega) fun _ => br_weak (br_weak (br_two (fun h => absurd (bne_iff_ne.1 h) (by rw [hlen, hul]; simp)) fun _ => ⟨rok, br_two (fun h => by cases h) fun _ => hG trivial⟩))
    refine br_if (fun h1 => br_if (fun h2 => ?_) fun h2 => br_weak (br_weak hX)) fun h1 => br_weak (br_weak hX)
    unfold apart at hap
    rw [decide_eq_true ⟨h1, h2⟩] at hap; cases hap
  refine LoopP.up (x.1.length : Int) (fun i _ => True) (fun again i v hi0 hin hI hag => ?_) (by omega) trivial
  obtain ⟨k, rfl⟩ := Int.eq_ofNat_of_zero_le hi0
  dsimp only
  rw [hul]
  refine br_weak (br_if (fun hlt => ?_) fun hge => hT)
  have hk : k < x.1.length := by omega
  refine br_must (inb (by omega) (by omega)) (br_two (fun q => ?_) fun _ => ?_)
  · have := hne k hk
    rw [Int.toNat_natCast] at q
    exact absurd (beq_iff_eq.1 q) this
  have hgo : again (IntKind.i64.wrap ((k : Int) + 1), ()) := by
    rw [wr (by omega) (by omega)]
    exact hag () hlt trivial
  refine LoopP.up (x.1.length : Int) (fun j v => v = (oth a0 x.1 k j.toNat, ())) (fun again2 j v hj0 hjn hJ hag2 => ?_) (by omega) rfl
  subst hJ
  obtain ⟨j, rfl⟩ := Int.eq_ofNat_of_zero_le hj0
  rw [Int.toNat_natCast]
  dsimp only
  have hol : (oth a0 x.1 k j).length ≤ 4 := by
    unfold oth
    rw [pick3_len, List.length_eraseIdx, List.length_take]
    split <;> omega
  refine br_weak (br_if (fun hlt2 => ?_) fun hge => ?_)
  · have hj : j < x.1.length := by omega
    have hh := hag2 _ hlt2 rfl
    rw [show ((j : Int) + 1).toNat = j + 1 by omega] at hh
    rw [wr (n := (j : Int) + 1) (by omega) (by omega), ups_get, Int.toNat_natCast]
    have hin := hC.asc.2 (x.1.getD j 0) (by rw [getD_lt hj]; exact List.getElem_mem _)
    refine br_two (fun q => ?_) fun q => ?_
    · have hjk : j ≠ k := fun e => by subst e; simp at q
      rw [oth_more a0 hj hjk] at hh
      exact br_must (inb (by omega) (by omega)) (br_must (inb (by omega) (by omega)) (br_must (roomOk_iff.2 (by omega)) hh))
    · have hjk : j = k := by have := bne_f.1 q; omega
      subst hjk
      rw [oth_skip a0 hj] at hh
      exact hh
  · have hj : j = x.1.length := by omega
    subst hj
    have eo : oth a0 x.1 k x.1.length = pick3 a0 (x.1.eraseIdx k) := by unfold oth; rw [List.take_of_length_le (Nat.le_refl _)]
    rw [eo] at hol ⊢
    have hel : (pick3 a0 (x.1.eraseIdx k)).length = x.1.length - 1 := by rw [pick3_len, List.length_eraseIdx, if_pos hk]
    have hrd : (rdOf (pick3 a0 (x.1.eraseIdx k))).2 = 0 := by
      rw [rdOf_none (by omega) (by omega) fun r hr => rdOf_all h24 r (pick3_mem (asc_erase hC.asc k) r hr)]
    have ew : conW (pick3 a0 (x.1.eraseIdx k)) = (([], []), 12) := by
      unfold conW
      rw [if_neg (fun hh => hh hrd), hC.less hk]
    rw [ew]
    exact br_weak (br_if (fun _ => br_two (fun q => by cases q) fun _ => hgo) fun _ => hgo)
theorem f8_fn : f8_e.fn = f8 := rfl
theorem f8_ok : EntryOK Try.prog 8 f8_e := by
  refine entryF progOK (EnvOK.cons f10_ok (EnvOK.cons f21_ok (EnvOK.cons f23_ok (EnvOK.cons f31_ok (EnvOK.cons f32_ok (EnvOK.cons f33_ok (EnvOK.cons f44_ok (EnvOK.cons f45_ok (EnvOK.cons f46_ok (EnvOK.cons f47_ok (EnvOK.cons f48_ok (EnvOK.nil)))))))))))) (A := f8_A) (d := 6) Try.func8 rfl rfl rfl rfl (fun _ _ => trivial) fun x hpre => ?_
  obtain ⟨a0, a1⟩ := x
  exact f8_t a0 a1 _ fun _ h => h.trans (congrFun f8_fn.symm _)
end Go.Proofs.Ytglijnhkdnhofaa
