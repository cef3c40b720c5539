/- What functions of the program compute, each proved once, part 17. -/
import Derived.Test.YtglijnhkdnhofaaGreatPiD
import Derived.Test.YtglijnhkdnhofaaGreatFnA
import Derived.Test.YtglijnhkdnhofaaGreatFnM
import Derived.Test.YtglijnhkdnhofaaGreatFnO
import Derived.Test.YtglijnhkdnhofaaGreatFnP
import Derived.Test.YtglijnhkdnhofaaGreatFnG
import Derived.Test.YtglijnhkdnhofaaGreatFnH
import Derived.Test.YtglijnhkdnhofaaGreatFnN

section
namespace Go.Proofs.YtglijnhkdnhofaaGreat
open Go Go.Pi Go.RowKit
set_option maxRecDepth 100000
set_option linter.unusedVariables false
set_option linter.unusedSimpArgs false

def f26 (x : List ((Int × Int × Int) × Int × Int)) : (List Int × List Int) × Bool := conF x
def f26_pre (x : List ((Int × Int × Int) × Int × Int)) : Prop := RdOK x
theorem bit_at : ∀ s i : Nat, s < 64 → i < 6 → (IntKind.i64.wrap (((BitVec.ofInt IntKind.i64.bits ((s : Int).fdiv (2 ^ (min i IntKind.i64.bits))) &&& BitVec.ofInt IntKind.i64.bits 1).toNat : Nat)) == 1) = s.testBit i := by
  intro s i hs hi
  have := (by decide +kernel : ∀ s : Fin 64, ∀ i : Fin 6, (IntKind.i64.wrap (((BitVec.ofInt IntKind.i64.bits ((s.val : Int).fdiv (2 ^ (min i.val IntKind.i64.bits))) &&& BitVec.ofInt IntKind.i64.bits 1).toNat : Nat)) == 1) = s.val.testBit i.val)
  exact this ⟨s, hs⟩ ⟨i, hi⟩
theorem pow_at : ∀ n : Nat, n ≤ 6 → IntKind.i64.wrap (1 * 2 ^ (min ((n : Int)).toNat IntKind.i64.bits)) = ((2 ^ n : Nat) : Int) ∧ 2 ^ n ≤ 64 := by
  intro n hn
  have := (by decide +kernel : ∀ n : Fin 7, IntKind.i64.wrap (1 * 2 ^ (min ((n.val : Int)).toNat IntKind.i64.bits)) = ((2 ^ n.val : Nat) : Int) ∧ 2 ^ n.val ≤ 64)
  exact this ⟨n, by omega⟩
theorem subsN_le (n t : Nat) : (subsN n t).length ≤ n := by
  unfold subsN
  have := List.length_filter_le (fun i => t.testBit i) (List.range n)
  rwa [List.length_range] at this
theorem pick_up (l : List Rd) (s : List Nat) : pickI l (upN s) = pick3 l s := by
  unfold pickI pick3
  rw [List.map_map]
  exact List.map_congr_left fun k _ => by simp
def f26_e : Entry := { doms := [(false, (.sl (.pair (.pair (.int .i64) (.pair (.int .i64) (.int .i64))) (.pair (.int .i64) (.int .i64)))))], cods := [(true, (.pair (.sl (.int .i64)) (.sl (.int .i64)))), (false, .bool)], pre := f26_pre, fn := f26, uq := false, total := false }
def f26_E : Env := [(28, f28_e), (89, f89_e), (90, f90_e), (21, f21_e)]
def f26_A : Anns := { loops := [(1048576, { tms := [(0, .keep), (2, .keep), (4, .keep), (5, .data false .bool), (6, .data false (.int .i64))], obs := [(1048576, .keep), (1049600, .cells [.data (.sl (.int .i64)), .data (.sl (.int .i64))])], fz := [] }),
  (1048578, { tms := [(0, .keep), (2, .keep), (4, .keep), (5, .keep), (6, .keep), (7, .keep), (8, .ref 1060876), (9, .data false (.int .i64))], obs := [(1048576, .keep), (1049600, .keep), (1054720, .cells [.ref 1060868, .data (.sl (.int .i64))]), (1060868, .arr (.uniq) (.int .i64)), (1060876, .arr (.uniq) (.pair (.int .i64) (.pair (.int .i64) (.int .i64))))], fz := [] }),
  (1572921, { tms := [(0, .keep), (2, .keep), (4, .keep), (5, .keep), (6, .keep), (7, .keep), (8, .keep)], obs := [(1048576, .keep), (1049600, .keep), (1054720, .keep), (1060868, .keep), (1060876, .keep)], fz := [] })], own := [1061765, 2723550591415824227681891069095016684093027293812838623452753036530551859893602744799779547011626973572075793543096236214596486] }
theorem f26_run (a0 : List ((Int × Int × Int) × Int × Int)) (K : ((List Int × List Int) × Bool) → Prop) : runF Tryz.prog f26_E f26_A 6 Tryz.f26 f26_e.doms f26_e.cods a0 K =
    (LoopP (V := Bool × Int × List Int × List Int × Unit) (fun again v => (fun (again1 : Bool → Int → List Int → List Int → Prop) (v1_0 : Bool) (v1_1 : Int) (v1_2 : List Int) (v1_3 : List Int) =>
    br (lenOk (a0.length))
    (br (!(decide (((a0.length) : Int) < 0)))
    (br (decide (v1_1 < (IntKind.i64.wrap (1 * 2 ^ (min ((a0.length) : Int).toNat IntKind.i64.bits)))))
    (LoopP (V := Int × List Int × List Int × List (Int × Int × Int) × Unit) (fun again v => (fun (again2 : Int → List Int → List Int → List (Int × Int × Int) → Prop) (v2_0 : Int) (v2_1 : List Int) (v2_2 : List Int) (v2_3 : List (Int × Int × Int)) =>
    br (lenOk (a0.length))
    (br (decide (v2_0 < ((a0.length) : Int)))
    (br (!(decide (v2_0 < 0)))
    (br ((IntKind.i64.wrap (((BitVec.ofInt IntKind.i64.bits (v1_1.fdiv (2 ^ (min v2_0.toNat IntKind.i64.bits))) &&& BitVec.ofInt IntKind.i64.bits 1).toNat : Nat))) == 1)
    (br (roomOk ((v2_2.length) + 1) 8)
    (br (decide (0 ≤ v2_0) && decide (v2_0 < ((a0.length) : Int)))
    (br (roomOk ((v2_3.length) + 1) 24)
    (again2 (IntKind.i64.wrap (v2_0 + 1)) v2_1 (v2_2 ++ ([v2_0] : List Int)) (v2_3 ++ ([(((a0.getD v2_0.toNat ((0, (0, 0)), (0, 0))).1).1, (((a0.getD v2_0.toNat ((0, (0, 0)), (0, 0))).1).2))] : List (Int × Int × Int))))
    False)
    False)
    False)
    (again2 (IntKind.i64.wrap (v2_0 + 1)) v2_1 v2_2 v2_3))
    False)
    (JoinQ (V := Unit) (fun J => (fun (join3 : Prop) =>
    br (lenOk (v2_3.length))
    (br (decide (((v2_3.length) : Int) < 2))
    (again1 v1_0 (IntKind.i64.wrap (v1_1 + 1)) v1_2 v1_3)
    (br (lenOk (v2_3.length))
    (br (decide (((v2_3.length) : Int) > 4))
    (again1 v1_0 (IntKind.i64.wrap (v1_1 + 1)) v1_2 v1_3)
    (br v1_0
    (br (lenOk (v2_3.length))
    (br (lenOk (v1_2.length))
    (br (decide (((v2_3.length) : Int) > ((v1_2.length) : Int)))
    (again1 v1_0 (IntKind.i64.wrap (v1_1 + 1)) v1_2 v1_3)
    (br (lenOk (v2_3.length))
    (br (lenOk (v1_2.length))
    (br (((v2_3.length) : Int) == ((v1_2.length) : Int))
    (f89_pre (v2_2, v1_2) ∧
    br (!(f89 (v2_2, v1_2)))
    (again1 v1_0 (IntKind.i64.wrap (v1_1 + 1)) v1_2 v1_3)
    (join3))
    (join3))
    True)
    True))
    True)
    True)
    (join3)))
    True))
    True) (J ())) (fun v =>
    f90_pre v2_3 ∧
    br (!(f90 v2_3).2)
    (again1 v1_0 (IntKind.i64.wrap (v1_1 + 1)) v1_2 v1_3)
    (f28_pre (a0, (v2_2, (f90 v2_3).1)) ∧
    br (decide ((f28 (a0, (v2_2, (f90 v2_3).1))).1 > 0))
    (again1 true (IntKind.i64.wrap (v1_1 + 1)) v2_2 ((f90 v2_3).1))
    (br (decide ((f28 (a0, (v2_2, (f90 v2_3).1))).2 < 0))
    (again1 true (IntKind.i64.wrap (v1_1 + 1)) v2_2 ((f90 v2_3).1))
    (again1 v1_0 (IntKind.i64.wrap (v1_1 + 1)) v1_2 v1_3))))))
    True)
    (fun v2_0 v2_1 v2_2 v2_3 => again (v2_0, v2_1, v2_2, v2_3, ())) v.1 v.2.1 v.2.2.1 v.2.2.2.1) (0, ([] : List Int), ([] : List Int), ([] : List (Int × Int × Int)), ()))
    (K ((v1_2, v1_3), v1_0)))
    False)
    True)
    (fun v1_0 v1_1 v1_2 v1_3 => again (v1_0, v1_1, v1_2, v1_3, ())) v.1 v.2.1 v.2.2.1 v.2.2.2.1) (false, 0, ([] : List Int), ([] : List Int), ())) := by kernel_rfl
theorem f26_t (a0 : List ((Int × Int × Int) × Int × Int)) (hpre : f26_pre a0) (K : ((List Int × List Int) × Bool) → Prop) (hK : ∀ y : (List Int × List Int) × Bool, y = f26 a0 → K y) : RunF Tryz.prog f26_E f26_A 6 Tryz.f26 f26_e.doms f26_e.cods a0 K := by
  refine ⟨?_⟩
  rw [f26_run a0 K]
  have rok : RdOK a0 := hpre
  have h6 := rok.six
  have hpos := rok.pos
  have hd : ∀ r ∈ a0, r.1 ≠ z3 := fun r hr => (rok.dir r hr).2
  obtain ⟨ep, ep'⟩ := pow_at a0.length h6
  rw [ep]
  generalize hm : 2 ^ a0.length = m at *
  have e28 : ∀ x, f28 (a0, x) = totL (pickI a0 x.1) x.2 := fun _ => rfl
  have e89 : ∀ a b, f89 (a, b) = lexI a b := fun _ _ => rfl
  have e90 : ∀ l, f90 l = facR l := fun _ => rfl
  simp only [e28, e89, e90]
  refine LoopP.of (fun q : Bool × Int × List Int × List Int × Unit => ∃ s : Nat, q.2.1 = (s : Int) ∧ s ≤ m ∧ Inv a0 s q.1 q.2.2.1 q.2.2.2.1) (fun q => m - q.2.1.toNat) (fun again q hq hag => ?_) ⟨0, rfl, by omega, Inv.zero a0⟩
  obtain ⟨found, sI, b, f, u⟩ := q
  obtain ⟨s, hs, hsm, hI⟩ := hq
  dsimp only at hs hI
  subst hs
  dsimp only
  refine br_weak (br_must (by simp) (br_if (fun hlt => ?_) fun hge => hK _ ?_))
  rotate_left
  · have : s = m := by omega
    subst this
    rw [← hm] at hI
    exact hI.last hd
  have hs : s < m := by omega
  have hgo : ∀ fo b f, Inv a0 (s + 1) fo b f → again (fo, IntKind.i64.wrap ((s : Int) + 1), b, f, ()) := fun fo b f h => by
    rw [wr (by omega) (by omega)]
    exact hag _ ⟨s + 1, by simp, by omega, h⟩ (by simp; omega)
  refine LoopP.up (a0.length : Int) (fun i v => v.2.1 = upN (subsN i.toNat s) ∧ v.2.2.1 = dirs (pick3 a0 (subsN i.toNat s))) (fun again2 i v hi0 hin hJ hag2 => ?_) (by omega) ⟨rfl, rfl⟩
  obtain ⟨v1, v2, v3, u⟩ := v
  obtain ⟨k, rfl⟩ := Int.eq_ofNat_of_zero_le hi0
  rw [Int.toNat_natCast] at hJ
  obtain ⟨rfl, rfl⟩ := hJ
  have hle := subsN_le k s
  have l1 : (upN (subsN k s)).length = (subsN k s).length := List.length_map _
  have l2 : (dirs (pick3 a0 (subsN k s))).length = (subsN k s).length := by unfold dirs; rw [List.length_map, pick3_len]
  dsimp only
  refine br_weak (br_if (fun hlt2 => ?_) fun hge => ?_)
  · have hk : k < a0.length := by omega
    rw [Int.toNat_natCast, bit_at s k (by omega) (by omega)]
    have wk : IntKind.i64.wrap ((k : Int) + 1) = (k : Int) + 1 := wr (by omega) (by omega)
    rw [wk]
    refine br_must (by simp) (br_two (fun hb => ?_) fun hb => ?_)
    · refine br_must (roomOk_iff.2 (by rw [l1]; omega)) (br_must (inb (by omega) hlt2) (br_must (roomOk_iff.2 (by rw [l2]; omega)) ?_))
      have e := subsN_succ k s
      rw [if_pos hb] at e
      refine hag2 (_, _, _, ()) hlt2 ⟨?_, ?_⟩
      · show _ = upN (subsN ((k : Int) + 1).toNat s)
        rw [show ((k : Int) + 1).toNat = k + 1 by omega, e]
        simp
      · show _ = dirs (pick3 a0 (subsN ((k : Int) + 1).toNat s))
        rw [show ((k : Int) + 1).toNat = k + 1 by omega, e]
        unfold dirs pick3
        simp; rfl
    · have e := subsN_succ k s
      rw [if_neg (by rw [hb]; simp)] at e
      refine hag2 (_, _, _, ()) hlt2 ⟨?_, ?_⟩
      · show _ = upN (subsN ((k : Int) + 1).toNat s)
        rw [show ((k : Int) + 1).toNat = k + 1 by omega, e]
      · show _ = dirs (pick3 a0 (subsN ((k : Int) + 1).toNat s))
        rw [show ((k : Int) + 1).toNat = k + 1 by omega, e]
  have hk : k = a0.length := by omega
  subst hk
  have hasc := subsN_asc a0.length s
  generalize hS : subsN a0.length s = S at *
  have bad : ¬ (2 ≤ S.length ∧ S.length ≤ 4) → Inv a0 (s + 1) found b f := fun h => hI.skip fun g ho => h (by have := ho.1; rw [hS] at this; exact this)
  refine JoinQ.use0 ((2 ≤ S.length ∧ S.length ≤ 4) ∧ (found = true → ¬ (S.length > b.length ∨ S.length = b.length ∧ lexI (upN S) b = false))) (fun G hG => ?_) fun hj => ?_
  · rw [l2]
    refine br_weak (br_if (fun q => hgo _ _ _ (bad (by omega))) fun q => br_weak (br_if (fun q2 => hgo _ _ _ (bad (by omega))) fun q2 => br_two (fun hf => ?_) fun hf => hG ⟨by omega, fun h => by rw [hf] at h; cases h⟩))
    subst hf
    have worse : (S.length > b.length ∨ S.length = b.length ∧ lexI (upN S) b = false) → Inv a0 (s + 1) true b f := fun h => hI.worse (by rw [hS]; exact h)
    refine br_weak (br_weak (br_if (fun q3 => hgo _ _ _ (worse (.inl (by omega)))) fun q3 => br_weak (br_weak (br_two (fun q4 => ?_) fun q4 => hG ⟨by omega, fun _ h => ?_⟩))))
    · have q4 : S.length = b.length := by have := beq_iff_eq.1 q4; omega
      refine ⟨show (upN S).length = b.length by omega, br_two (fun q5 => hgo _ _ _ (worse (.inr ⟨q4, by simpa using q5⟩))) fun q5 => hG ⟨by omega, fun _ h => ?_⟩⟩
      rcases h with h | h
      · omega
      · rw [h.2] at q5; cases q5
    · have q4 := beq_eq_false_iff_ne.1 q4
      rcases h with h | h
      · omega
      · exact q4 (by omega)
  obtain ⟨hl, hn⟩ := hj
  have hdr : Dirs (dirs (pick3 a0 S)) := ⟨fun d hd' => by
    obtain ⟨r, hr, rfl⟩ := List.mem_map.1 hd'
    exact (rok.dir r (pick3_mem hasc r hr)).1, fun d hd' => by
    obtain ⟨r, hr, rfl⟩ := List.mem_map.1 hd'
    exact (rok.dir r (pick3_mem hasc r hr)).2⟩
  refine ⟨⟨by omega, by omega, hdr⟩, br_two (fun q => hgo _ _ _ (hI.skip fun g ho => ?_)) fun q => ?_⟩
  · have := ho.2
    rw [hS] at this
    unfold TR at this
    rw [if_neg (fun hh => by rw [hh.1] at q; cases q)] at this
    cases this
  have q : (facR (dirs (pick3 a0 S))).2 = true := by simpa using q
  have hfac : facR (dirs (pick3 a0 S)) = ((relL (dirs (pick3 a0 S))).1, true) ∧ (relL (dirs (pick3 a0 S))).2 = true := by
    unfold facR at q ⊢
    by_cases hc : (relL (dirs (pick3 a0 S))).2 = true ∧ Nz (relL (dirs (pick3 a0 S))).1
    · exact ⟨if_pos hc, hc.1⟩
    · rw [if_neg hc] at q; cases q
  have hle9 := relL_le hdr.1
  have hlen := (relL_is hfac.2).len
  have hT : TR (pick3 a0 S) = if apart (totL (pick3 a0 S) (facR (dirs (pick3 a0 S))).1) = true then some (facR (dirs (pick3 a0 S))).1 else none := by
    unfold TR
    by_cases ha : apart (totL (pick3 a0 S) (facR (dirs (pick3 a0 S))).1) = true
    · rw [if_pos ⟨q, ha⟩, if_pos ha]
    · rw [if_neg (fun hh => ha hh.2), if_neg ha]
  have hF1 : (facR (dirs (pick3 a0 S))).1 = (relL (dirs (pick3 a0 S))).1 := by rw [hfac.1]
  generalize facR (dirs (pick3 a0 S)) = F at *
  rw [pick_up]
  have tok : f28_pre (a0, (upN S, F.1)) := by
    refine ⟨show (upN S).length ≤ 6 by omega, show (upN S).length = F.1.length by rw [hF1, hlen]; omega, fun n hn' => ?_, fun n hn' => ?_, fun r hr => by have := rok.rng r hr; omega⟩
    · obtain ⟨k, hk, rfl⟩ := List.mem_map.1 hn'
      have := hasc.2 k hk
      exact ⟨by omega, by show (k : Int) < (a0.length : Int); omega⟩
    · have hn' : n ∈ F.1 := hn'
      rw [hF1] at hn'
      exact hle9 n hn'
  refine ⟨tok, ?_⟩
  have yes : apart (totL (pick3 a0 S) F.1) = true → Inv a0 (s + 1) true (upN S) F.1 := fun ha => by
    have := hI.take (g := F.1) (by rw [hS]; exact hn) ⟨by rw [hS]; exact hl, by rw [hS, hT, if_pos ha]⟩
    rwa [hS] at this
  have no : apart (totL (pick3 a0 S) F.1) = false → Inv a0 (s + 1) found b f := fun ha => hI.skip fun g ho => by
    have := ho.2
    rw [hS, hT, ha] at this
    cases this
  refine br_if (fun q1 => hgo _ _ _ (yes ?_)) fun q1 => br_if (fun q2 => hgo _ _ _ (yes ?_)) fun q2 => hgo _ _ _ (no ?_)
  · unfold apart
    rw [decide_eq_false (fun h => by omega)]; rfl
  · unfold apart
    rw [decide_eq_false (fun h => by omega)]; rfl
  · unfold apart
    rw [decide_eq_true ⟨by omega, by omega⟩]; rfl
theorem f26_fn : f26_e.fn = f26 := rfl
theorem f26_ok : EntryOK Tryz.prog 26 f26_e := by
  refine entryF progOK (EnvOK.cons f28_ok (EnvOK.cons f89_ok (EnvOK.cons f90_ok (EnvOK.cons f21_ok (EnvOK.nil))))) (A := f26_A) (d := 6) Tryz.func26 rfl rfl rfl rfl (fun h => by cases h) fun x hpre => ?_
  exact f26_t x hpre _ fun _ h => h.trans (congrFun f26_fn.symm _)
end Go.Proofs.YtglijnhkdnhofaaGreat
end

section
namespace Go.Proofs.YtglijnhkdnhofaaGreat
open Go Go.Pi Go.RowKit
set_option maxRecDepth 100000
set_option linter.unusedVariables false
set_option linter.unusedSimpArgs false

def f4 (x : List ((Int × Int × Int) × Int × Int) × List Int × List Int) : Bool := true
def f4_e : Entry := { doms := [(false, (.sl (.pair (.pair (.int .i64) (.pair (.int .i64) (.int .i64))) (.pair (.int .i64) (.int .i64))))), (true, (.pair (.sl (.int .i64)) (.sl (.int .i64))))], cods := [(false, .bool)], pre := fun _ => True, fn := f4, uq := false, total := true }
def f4_E : Env := [(8, f8_e), (9, f9_e), (11, f11_e), (21, f21_e), (22, f22_e), (23, f23_e), (24, f24_e), (25, f25_e), (26, f26_e), (27, f27_e), (28, f28_e)]
def f4_A : Anns := { loops := [(1572917, { tms := [(0, .keep), (3, .keep), (7, .keep), (8, .keep)], obs := [(1048576, .keep), (1054728, .keep)], fz := [] })], own := [] }
theorem f4_run (a0 : List ((Int × Int × Int) × Int × Int)) (a1 : List Int × List Int) (K : Bool → Prop) : runF Tryz.prog f4_E f4_A 6 Tryz.f4 f4_e.doms f4_e.cods (a0, a1) K =
    (br (!(f8 ()))
    (K false)
    (br (!(f9 a0))
    (K true)
    (br (lenOk (a1.1.length))
    (br (decide (((a1.1.length) : Int) > 8))
    (K true)
    (br (lenOk (a1.2.length))
    (br (decide (((a1.2.length) : Int) > 8))
    (K true)
    (f11_pre a0 ∧
    f11_pre a0 ∧
    f23_pre a1 ∧
    f22_pre ((f11 a0), (f23 a1)) ∧
    br ((f24 a0) != 0)
    (br ((f21 (f11 a0)).2 == (f24 a0))
    (br ((f22 ((f11 a0), (f23 a1))).2 == (f24 a0))
    (br (f25 (((f21 (f11 a0)).1), (([] : List Int), ([] : List Int))))
    (K ((((f22 ((f11 a0), (f23 a1))).1).1 == 0) && ((((f22 ((f11 a0), (f23 a1))).1).2 == 0) && true)))
    (K false))
    (K false))
    (K false))
    (f26_pre a0 ∧
    JoinQ (V := Unit) (fun J => (fun (join1 : Prop) =>
    br (f26 a0).2
    (br ((f21 (f11 a0)).2 != 0)
    (K false)
    (br (!(f25 (((f21 (f11 a0)).1), ((f26 a0).1))))
    (K false)
    (br (!(f26 a0).2)
    (br ((f21 (f11 a0)).2 != 12)
    (K false)
    (br (!(f25 (((f21 (f11 a0)).1), (([] : List Int), ([] : List Int)))))
    (K false)
    (join1)))
    (join1))))
    (br (!(f26 a0).2)
    (br ((f21 (f11 a0)).2 != 12)
    (K false)
    (br (!(f25 (((f21 (f11 a0)).1), (([] : List Int), ([] : List Int)))))
    (K false)
    (join1)))
    (join1))) (J ())) (fun v =>
    f27_pre (a0, a1) ∧
    br ((f27 (a0, a1)) != 0)
    (br ((f22 ((f11 a0), (f23 a1))).2 == (f27 (a0, a1)))
    (K ((((f22 ((f11 a0), (f23 a1))).1).1 == 0) && ((((f22 ((f11 a0), (f23 a1))).1).2 == 0) && true)))
    (K false))
    (br ((f22 ((f11 a0), (f23 a1))).2 == 0)
    (f28_pre (a0, a1) ∧
    K ((((f22 ((f11 a0), (f23 a1))).1).1 == (f28 (a0, a1)).1) && ((((f22 ((f11 a0), (f23 a1))).1).2 == (f28 (a0, a1)).2) && true)))
    (K false))))))
    True))
    True))) := by kernel_rfl
theorem f4_t (a0 : List ((Int × Int × Int) × Int × Int)) (a1 : List Int × List Int) (K : Bool → Prop) (hK : ∀ y : Bool, y = f4 (a0, a1) → K y) : RunF Tryz.prog f4_E f4_A 6 Tryz.f4 f4_e.doms f4_e.cods (a0, a1) K := by
  refine ⟨?_⟩
  rw [f4_run a0 a1 K]
  have e8 : f8 () = true := rfl
  have hT : K true := hK _ rfl
  have hKb : ∀ b : Bool, b = true → K b := fun b h => hK _ (by rw [h]; rfl)
  have e9 : f9 a0 = decide (a0.length ≤ 8) := rfl
  have e11 : ∀ l, f11 l = l := fun _ => rfl
  have e23 : ∀ x, f23 x = x := fun _ => rfl
  have e24 : f24 a0 = (rdOf a0).2 := rfl
  have e21 : ∀ l, f21 l = conW l := fun _ => rfl
  have e22 : ∀ l x, f22 (l, x) = chkW l x := fun _ _ => rfl
  have e25 : ∀ x y, f25 (x, y) = decide (x = y) := fun _ _ => rfl
  have e26 : f26 a0 = conF a0 := rfl
  have e27 : f27 (a0, a1) = prfE a0 a1.1 a1.2 := rfl
  have e28 : f28 (a0, a1) = totL (pickI a0 a1.1) a1.2 := rfl
  simp only [e11, e23, e24, e21, e22, e25, e26, e27, e28]
  rw [e8, e9]
  refine br_two (fun h => by cases h) fun _ => br_two (fun _ => hT) fun h9 => ?_
  have hl : a0.length ≤ 8 := by simpa using h9
  refine br_weak (br_if (fun _ => hT) fun hR => br_weak (br_if (fun _ => hT) fun hF => ?_))
  have p11 : f11_pre a0 := show a0.length ≤ 1048576 by omega
  refine ⟨p11, p11, ⟨show a1.1.length ≤ 1048576 by omega, show a1.2.length ≤ 1048576 by omega⟩, ⟨show a1.1.length ≤ 1000 by omega, show a1.2.length ≤ 1000 by omega⟩, ?_⟩
  refine br_two (fun h24 => ?_) fun h24 => ?_
  · have h24 : (rdOf a0).2 ≠ 0 := bne_iff_ne.1 h24
    have ec : conW a0 = (([], []), (rdOf a0).2) := by unfold conW; rw [if_pos h24]
    have ek : chkW a0 a1 = ((0, 0), (rdOf a0).2) := by unfold chkW; rw [if_pos h24]
    rw [ec, ek]
    refine br_two (fun _ => br_two (fun _ => br_two (fun _ => hKb _ rfl) fun q => ?_) fun q => ?_) fun q => ?_
    · exact absurd rfl (of_decide_eq_false q)
    · exact absurd rfl (beq_eq_false_iff_ne.1 q)
    · exact absurd rfl (beq_eq_false_iff_ne.1 q)
  have h24 : (rdOf a0).2 = 0 := bne_f.1 h24
  have rok := rdOf_ok h24
  have h6 := rok.six
  refine ⟨rok, ?_⟩
  have ek : chkW a0 a1 = if prfE a0 a1.1 a1.2 ≠ 0 then ((0, 0), prfE a0 a1.1 a1.2) else (totL (pickI a0 a1.1) a1.2, 0) := by unfold chkW; rw [if_neg (fun hh => hh h24)]
  rw [ek]
  refine JoinQ.use0 True (fun G hG => ?_) fun _ => ?_
  · have hg := hG trivial
    unfold conW conF
    rw [if_neg (fun hh => hh h24)]
    cases conL a0 with
    | none => exact br_two (fun q => by cases q) fun _ => br_two (fun _ => br_two (fun q => by cases q) fun _ => br_two (fun q => by cases q) fun _ => hg) fun _ => hg
    | some x =>
      refine br_two (fun _ => br_two (fun q => by cases q) fun _ => br_two (fun q => ?_) fun _ => br_two (fun q => by cases q) fun _ => hg) fun q => by cases q
      rw [decide_eq_true rfl] at q; cases q
  refine ⟨rok, ?_⟩
  by_cases hp : prfE a0 a1.1 a1.2 ≠ 0
  · rw [if_pos hp]
    exact br_two (fun _ => br_two (fun _ => hKb _ rfl) fun q => absurd rfl (beq_eq_false_iff_ne.1 q)) fun q => absurd (bne_f.1 q) hp
  · rw [if_neg hp]
    have hp : prfE a0 a1.1 a1.2 = 0 := Classical.byContradiction hp
    refine br_two (fun q => absurd hp (bne_iff_ne.1 q)) fun _ => br_two (fun _ => ⟨?_, hKb _ ?_⟩) fun q => by cases q
    · unfold prfE at hp
      split at hp
      · cases hp
      · rename_i c1
        split at hp
        · rename_i c2; exact absurd hp c2
        · rename_i c2
          split at hp
          · rename_i c3; exact absurd hp c3
          · rename_i c3
            exact (prf_ok rok (Classical.byContradiction fun q => c1 (.inr q)) (eachE_zero (Classical.byContradiction c2)) (eachE_zero (Classical.byContradiction c3))).tot
    · simp
theorem f4_fn : f4_e.fn = f4 := rfl
theorem f4_ok : EntryOK Tryz.prog 4 f4_e := by
  refine entryF progOK (EnvOK.cons f8_ok (EnvOK.cons f9_ok (EnvOK.cons f11_ok (EnvOK.cons f21_ok (EnvOK.cons f22_ok (EnvOK.cons f23_ok (EnvOK.cons f24_ok (EnvOK.cons f25_ok (EnvOK.cons f26_ok (EnvOK.cons f27_ok (EnvOK.cons f28_ok (EnvOK.nil)))))))))))) (A := f4_A) (d := 6) Tryz.func4 rfl rfl rfl rfl (fun _ _ => trivial) fun x hpre => ?_
  obtain ⟨a0, a1⟩ := x
  exact f4_t a0 a1 _ fun _ h => h.trans (congrFun f4_fn.symm _)
end Go.Proofs.YtglijnhkdnhofaaGreat
end
