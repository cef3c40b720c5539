/- What functions of the program compute, each proved once, part 2. -/
import Derived.Test.YtglijnhkdnhofaaGreatPiD
import Derived.Test.YtglijnhkdnhofaaGreatFnA
import Derived.Shelf.SlGeneric
import Derived.Ground.SlsfProg

section
namespace Go.Proofs.YtglijnhkdnhofaaGreat
open Go Go.Pi Go.RowKit
set_option maxRecDepth 100000
set_option linter.unusedVariables false
set_option linter.unusedSimpArgs false

def f68 (x : (Int × Int) × Int × Int) : Int := w64 (x.1.1 * x.2.2 - x.2.1 * x.1.2)
def f68_e : Entry := { doms := [(true, (.pair (.int .i64) (.int .i64))), (true, (.pair (.int .i64) (.int .i64)))], cods := [(false, (.int .i64))], pre := fun _ => True, fn := f68, uq := false, total := true }
def f68_E : Env := []
def f68_A : Anns := { loops := [], own := [] }
theorem f68_run (a0 : Int × Int) (a1 : Int × Int) (K : Int → Prop) : runF Tryz.prog f68_E f68_A 6 Tryz.f68 f68_e.doms f68_e.cods (a0, a1) K =
    (K (IntKind.i64.wrap ((IntKind.i64.wrap (a0.1 * a1.2)) - (IntKind.i64.wrap (a1.1 * a0.2))))) := by kernel_rfl
theorem f68_t (a0 : Int × Int) (a1 : Int × Int) (K : Int → Prop) (hK : ∀ y : Int, y = f68 (a0, a1) → K y) : RunF Tryz.prog f68_E f68_A 6 Tryz.f68 f68_e.doms f68_e.cods (a0, a1) K := by
  refine ⟨?_⟩
  rw [f68_run a0 a1 K]
  exact hK _ (by simp only [f68, w64, wrap_sub_l, wrap_sub_r])
theorem f68_fn : f68_e.fn = f68 := rfl
theorem f68_ok : EntryOK Tryz.prog 68 f68_e := by
  refine entryF progOK (EnvOK.nil) (A := f68_A) (d := 6) Tryz.func68 rfl rfl rfl rfl (fun _ _ => trivial) fun x hpre => ?_
  obtain ⟨a0, a1⟩ := x
  exact f68_t a0 a1 _ fun _ h => h.trans (congrFun f68_fn.symm _)
end Go.Proofs.YtglijnhkdnhofaaGreat
end

section
namespace Go.Proofs.YtglijnhkdnhofaaGreat
open Go Go.Pi Go.RowKit
set_option maxRecDepth 100000
set_option linter.unusedVariables false
set_option linter.unusedSimpArgs false

def f123 (x : (Int × Int × Int × Int) × Int × Int × Int × Int) : Int := firstN (w64 (x.1.1 * x.2.2.2.2 - x.2.1 * x.1.2.2.2)) (w64 (x.1.2.1 * x.2.2.2.2 - x.2.2.1 * x.1.2.2.2)) (w64 (x.1.2.2.1 * x.2.2.2.2 - x.2.2.2.1 * x.1.2.2.2))
def f123_e : Entry := { doms := [(true, (.pair (.int .i64) (.pair (.int .i64) (.pair (.int .i64) (.int .i64))))), (true, (.pair (.int .i64) (.pair (.int .i64) (.pair (.int .i64) (.int .i64)))))], cods := [(false, (.int .i64))], pre := fun _ => True, fn := f123, uq := false, total := true }
def f123_E : Env := [(65, f65_e), (68, f68_e)]
def f123_A : Anns := { loops := [], own := [], unroll := 4 }
theorem f123_run (a0 : Int × Int × Int × Int) (a1 : Int × Int × Int × Int) (K : Int → Prop) : runF Tryz.prog f123_E f123_A 6 Tryz.f123 f123_e.doms f123_e.cods (a0, a1) K =
    (br ((f68 (((f65 a0).1, a0.2.2.2), ((f65 a1).1, a1.2.2.2))) != 0)
    (K (f68 (((f65 a0).1, a0.2.2.2), ((f65 a1).1, a1.2.2.2))))
    (br ((f68 ((((f65 a0).2).1, a0.2.2.2), (((f65 a1).2).1, a1.2.2.2))) != 0)
    (K (f68 ((((f65 a0).2).1, a0.2.2.2), (((f65 a1).2).1, a1.2.2.2))))
    (br ((f68 ((((f65 a0).2).2, a0.2.2.2), (((f65 a1).2).2, a1.2.2.2))) != 0)
    (K (f68 ((((f65 a0).2).2, a0.2.2.2), (((f65 a1).2).2, a1.2.2.2))))
    (K 0)))) := by kernel_rfl
theorem f123_t (a0 : Int × Int × Int × Int) (a1 : Int × Int × Int × Int) (K : Int → Prop) (hK : ∀ y : Int, y = f123 (a0, a1) → K y) : RunF Tryz.prog f123_E f123_A 6 Tryz.f123 f123_e.doms f123_e.cods (a0, a1) K := by
  refine ⟨?_⟩
  rw [f123_run a0 a1 K]
  have e1 : f68 (((f65 a0).1, a0.2.2.2), (f65 a1).1, a1.2.2.2) = w64 (a0.1 * a1.2.2.2 - a1.1 * a0.2.2.2) := rfl
  have e2 : f68 (((f65 a0).2.1, a0.2.2.2), (f65 a1).2.1, a1.2.2.2) = w64 (a0.2.1 * a1.2.2.2 - a1.2.1 * a0.2.2.2) := rfl
  have e3 : f68 (((f65 a0).2.2, a0.2.2.2), (f65 a1).2.2, a1.2.2.2) = w64 (a0.2.2.1 * a1.2.2.2 - a1.2.2.1 * a0.2.2.2) := rfl
  rw [e1, e2, e3]
  have ef : f123 (a0, a1) = firstN (w64 (a0.1 * a1.2.2.2 - a1.1 * a0.2.2.2)) (w64 (a0.2.1 * a1.2.2.2 - a1.2.1 * a0.2.2.2)) (w64 (a0.2.2.1 * a1.2.2.2 - a1.2.2.1 * a0.2.2.2)) := rfl
  rw [ef] at hK
  refine br_two (fun h => hK _ ?_) fun h => br_two (fun h2 => hK _ ?_) fun h2 => br_two (fun h3 => hK _ ?_) fun h3 => hK _ ?_
  · rw [firstN, if_pos (bne_t.1 h)]
  · rw [firstN, if_neg (fun hh => hh (bne_f.1 h)), if_pos (bne_t.1 h2)]
  · rw [firstN, if_neg (fun hh => hh (bne_f.1 h)), if_neg (fun hh => hh (bne_f.1 h2))]
  · rw [firstN, if_neg (fun hh => hh (bne_f.1 h)), if_neg (fun hh => hh (bne_f.1 h2)), bne_f.1 h3]
theorem f123_fn : f123_e.fn = f123 := rfl
theorem f123_ok : EntryOK Tryz.prog 123 f123_e := by
  refine entryF progOK (EnvOK.cons f65_ok (EnvOK.cons f68_ok (EnvOK.nil))) (A := f123_A) (d := 6) Tryz.func123 rfl rfl rfl rfl (fun _ _ => trivial) fun x hpre => ?_
  obtain ⟨a0, a1⟩ := x
  exact f123_t a0 a1 _ fun _ h => h.trans (congrFun f123_fn.symm _)
end Go.Proofs.YtglijnhkdnhofaaGreat
end

section
namespace Go.Proofs
open Go.Shelf
def Tryz.sortWinds_ren : Go.Shelf.Ren := ⟨fun | 6 => 122 | 15 => 152 | 14 => 151 | 28 => 172 | 29 => 173 | 20 => 164 | 21 => 165 | 22 => 166 | 23 => 167 | 24 => 168 | 25 => 169 | 26 => 170 | 27 => 171 | 46 => 178 | 47 => 179 | 48 => 180 | 49 => 181 | 50 => 182 | 57 => 183 | n => n, fun | 22 => 26 | 24 => 66 | 25 => 184 | 3 => 3 | 39 => 210 | 0 => 0 | 53 => 227 | 55 => 229 | 4 => 4 | 46 => 221 | 45 => 220 | 50 => 203 | 5 => 5 | 9 => 9 | 66 => 231 | 70 => 235 | 76 => 237 | 77 => 87 | n => n, fun | n => n⟩
theorem Tryz.sortWinds : Go.Proofs.SlLaysF0.n6 Tryz.prog Tryz.sortWinds_ren := {
  mixed := by kernel_rfl
  f6 := ⟨Tryz.f122.name, by decide, Tryz.func122.trans (congrArg some (by kernel_rfl))⟩
  f14 := ⟨Tryz.f151.name, by decide, Tryz.func151.trans (congrArg some (by kernel_rfl))⟩
  f15 := Tryz.func152.trans (congrArg some (by kernel_rfl))
  f20 := ⟨Tryz.f164.name, by decide, Tryz.func164.trans (congrArg some (by kernel_rfl))⟩
  f21 := ⟨Tryz.f165.name, by decide, Tryz.func165.trans (congrArg some (by kernel_rfl))⟩
  f22 := ⟨Tryz.f166.name, by decide, Tryz.func166.trans (congrArg some (by kernel_rfl))⟩
  f23 := ⟨Tryz.f167.name, by decide, Tryz.func167.trans (congrArg some (by kernel_rfl))⟩
  f24 := ⟨Tryz.f168.name, by decide, Tryz.func168.trans (congrArg some (by kernel_rfl))⟩
  f25 := ⟨Tryz.f169.name, by decide, Tryz.func169.trans (congrArg some (by kernel_rfl))⟩
  f26 := ⟨Tryz.f170.name, by decide, Tryz.func170.trans (congrArg some (by kernel_rfl))⟩
  f27 := ⟨Tryz.f171.name, by decide, Tryz.func171.trans (congrArg some (by kernel_rfl))⟩
  f28 := Tryz.func172.trans (congrArg some (by kernel_rfl))
  f29 := Tryz.func173.trans (congrArg some (by kernel_rfl))
  f46 := ⟨Tryz.f178.name, by decide, Tryz.func178.trans (congrArg some (by kernel_rfl))⟩
  f47 := Tryz.func179.trans (congrArg some (by kernel_rfl))
  f48 := Tryz.func180.trans (congrArg some (by kernel_rfl))
  f49 := ⟨Tryz.f181.name, by decide, Tryz.func181.trans (congrArg some (by kernel_rfl))⟩
  f50 := ⟨Tryz.f182.name, by decide, Tryz.func182.trans (congrArg some (by kernel_rfl))⟩
  f57 := ⟨Tryz.f183.name, by decide, Tryz.func183.trans (congrArg some (by kernel_rfl))⟩
  t0 := Tryz.underlying0
  a0 := Tryz.isAgg0
  z0 := Tryz.sizeOf0
  v0 := Tryz.zeroValue0
  t3 := Tryz.underlying3
  a3 := Tryz.isAgg3
  z3 := Tryz.sizeOf3
  v3 := Tryz.zeroValue3
  t4 := Tryz.underlying4
  a4 := Tryz.isAgg4
  z4 := Tryz.sizeOf4
  v4 := Tryz.zeroValue4
  t5 := Tryz.underlying5
  a5 := Tryz.isAgg5
  z5 := Tryz.sizeOf5
  v5 := Tryz.zeroValue5
  t9 := Tryz.underlying9
  a9 := Tryz.isAgg9
  z9 := Tryz.sizeOf9
  v9 := Tryz.zeroValue9
  t22 := Tryz.underlying26
  a22 := Tryz.isAgg26
  z22 := Tryz.sizeOf26
  v22 := Tryz.zeroValue26
  t25 := Tryz.underlying184
  a25 := Tryz.isAgg184
  z25 := Tryz.sizeOf184
  v25 := Tryz.zeroValue184
  t39 := Tryz.underlying210
  a39 := Tryz.isAgg210
  z39 := Tryz.sizeOf210
  v39 := Tryz.zeroValue210
  t45 := Tryz.underlying220
  a45 := Tryz.isAgg220
  z45 := Tryz.sizeOf220
  v45 := Tryz.zeroValue220
  t46 := Tryz.underlying221
  a46 := Tryz.isAgg221
  z46 := Tryz.sizeOf221
  v46 := Tryz.zeroValue221
  t50 := Tryz.underlying203
  a50 := Tryz.isAgg203
  z50 := Tryz.sizeOf203
  v50 := Tryz.zeroValue203
  t53 := Tryz.underlying227
  a53 := Tryz.isAgg227
  z53 := Tryz.sizeOf227
  v53 := Tryz.zeroValue227
  t55 := Tryz.underlying229
  a55 := Tryz.isAgg229
  z55 := Tryz.sizeOf229
  v55 := Tryz.zeroValue229
  t66 := Tryz.underlying231
  a66 := Tryz.isAgg231
  z66 := Tryz.sizeOf231
  v66 := Tryz.zeroValue231
  t70 := Tryz.underlying235
  a70 := Tryz.isAgg235
  z70 := Tryz.sizeOf235
  v70 := Tryz.zeroValue235
  t76 := Tryz.underlying237
  a76 := Tryz.isAgg237
  z76 := Tryz.sizeOf237
  v76 := Tryz.zeroValue237
  t77 := Tryz.underlying87
  a77 := Tryz.isAgg87
  z77 := Tryz.sizeOf87
  v77 := Tryz.zeroValue87 }
end Go.Proofs
namespace Go.Proofs.YtglijnhkdnhofaaGreat
open Go Go.Pi Go.RowKit Go.Sort Go.Shelf Go.Proofs
set_option maxRecDepth 100000
set_option linter.unusedVariables false

/-- Winds whose order the machine finds without leaving an int. -/
structure VOK (v : WV) : Prop where
  ok : WOK v
  den : v.2.2.2 ≤ 100000
  le : V3.le (wpt v) 10000000000000
theorem f123_eq {a b : WV} (ha : VOK a) (hb : VOK b) : f123 (a, b) = ordC a b := by
  have w : ∀ {x y : Int}, -10000000000000 ≤ x ∧ x ≤ 10000000000000 → -10000000000000 ≤ y ∧ y ≤ 10000000000000 → w64 (x * b.2.2.2 - y * a.2.2.2) = x * b.2.2.2 - y * a.2.2.2 := fun {x y} hx hy => by
    have h1 := mul_le hx (show -100000 ≤ b.2.2.2 ∧ b.2.2.2 ≤ 100000 from ⟨by have := hb.ok.den; omega, hb.den⟩)
    have h2 := mul_le hy (show -100000 ≤ a.2.2.2 ∧ a.2.2.2 ≤ 100000 from ⟨by have := ha.ok.den; omega, ha.den⟩)
    exact w64_in (by omega) (by omega)
  have e1 : w64 (a.1 * b.2.2.2 - b.1 * a.2.2.2) = _ := w ha.le.1 hb.le.1
  have e2 : w64 (a.2.1 * b.2.2.2 - b.2.1 * a.2.2.2) = _ := w ha.le.2.1 hb.le.2.1
  have e3 : w64 (a.2.2.1 * b.2.2.2 - b.2.2.1 * a.2.2.2) = _ := w ha.le.2.2 hb.le.2.2
  show firstN (w64 (a.1 * b.2.2.2 - b.1 * a.2.2.2)) (w64 (a.2.1 * b.2.2.2 - b.2.1 * a.2.2.2)) (w64 (a.2.2.1 * b.2.2.2 - b.2.2.1 * a.2.2.2)) = _
  rw [e1, e2, e3]
  rfl
def f122 (x : List (Int × Int × Int × Int)) : List (Int × Int × Int × Int) := sortW x
def f122_pre (x : List (Int × Int × Int × Int)) : Prop := x.length ≤ 1048576 ∧ x.Nodup ∧ ∀ v ∈ x, VOK v
def f122_ip : Ip := { g := 123, s := .pair (.int .i64) (.pair (.int .i64) (.pair (.int .i64) (.int .i64))), pre := f122_pre, fn := f122 }
def f122_e : Entry := { doms := [], cods := [], pre := fun _ => False, fn := fun x => x, ip := some f122_ip }
instance (a b : WV) : Decidable (wlt a b) := inferInstanceAs (Decidable (_ < _))
theorem swo : SWO (ltOf fun x y : { v : WV // VOK v } => ordC x.1 y.1) where
  irrefl x := decide_eq_false (wlt_irrefl x.1)
  trans x y z h1 h2 := decide_eq_true (wlt_trans x.2.ok.den y.2.ok.den z.2.ok.den (of_decide_eq_true h1) (of_decide_eq_true h2))
  ntrans x y z h1 h2 := by
    have h1 : ¬ wlt x.1 y.1 := of_decide_eq_false h1
    have h2 : ¬ wlt y.1 z.1 := of_decide_eq_false h2
    refine decide_eq_false fun h3 : wlt x.1 z.1 => ?_
    by_cases h4 : wlt y.1 x.1
    · exact h2 (wlt_trans y.2.ok.den x.2.ok.den z.2.ok.den h4 h3)
    · have := wlt_total x.2.ok y.2.ok h1 h4
      rw [this] at h3
      exact h2 h3
theorem f122_ok : EntryOK Tryz.prog 122 f122_e := by
  refine ⟨⟨_, Tryz.func122, rfl⟩, fun h => (by cases h), fun q e => ?_, fun S w args x _ _ hp _ => hp.elim⟩
  obtain rfl := Option.some.inj e
  have hi := ipOK_sort (q := f122_ip) (valid := VOK) (cf := ordC) Tryz.sortWinds rfl Tryz.isAgg66 Tryz.sizeOf66
    (enters_of Tryz.func123 (by kernel_rfl) rfl)
    (fun x y hx hy w => by
      have h := cmp_of_entry (s := f122_ip.s) rfl f123_ok x y trivial w
      rw [← f123_eq hx hy]
      exact h)
    swo (fun xs hp => ⟨Nat.lt_of_le_of_lt hp.1 (by decide), hp.2.2⟩) (fun xs ys hp hperm hs => sortW_eq (fun w hw => (hp.2.2 w hw).ok) hp.2.1 hperm hs)
  exact hi
end Go.Proofs.YtglijnhkdnhofaaGreat
end

section
namespace Go.Pi
set_option linter.unusedVariables false

/-! ### keys of a map -/
section
variable {ks vs : Sch}
theorem mput_mem (he : ∀ a b, ks.eqb a b = true ↔ a = b) {k : ks.D} {v : vs.D} {x : ks.D} : ∀ xs : List (ks.D × vs.D), x ∈ (mput ks vs xs k v).map (·.1) ↔ x ∈ xs.map (·.1) ∨ x = k
  | [] => by simp [mput]
  | y :: r => by
    unfold mput
    cases h : ks.eqb k y.1 with
    | true =>
      have e := (he _ _).1 h
      simp only [List.map_cons, List.mem_cons, e]
      constructor
      · exact .inl
      · rintro (h | h)
        · exact h
        · exact .inl h
    | false =>
      simp only [List.map_cons, List.mem_cons, mput_mem he r, or_assoc]
theorem mput_nodup (he : ∀ a b, ks.eqb a b = true ↔ a = b) {k : ks.D} {v : vs.D} : ∀ xs : List (ks.D × vs.D), (xs.map (·.1)).Nodup → ((mput ks vs xs k v).map (·.1)).Nodup
  | [], _ => by simp [mput]
  | y :: r, h => by
    have h' := List.nodup_cons.1 h
    unfold mput
    cases hq : ks.eqb k y.1 with
    | true =>
      have e := (he _ _).1 hq
      show ((k, v) :: r).map _ |>.Nodup
      rw [List.map_cons, e]
      exact h
    | false =>
      refine List.nodup_cons.2 ⟨fun hm => ?_, mput_nodup he r h'.2⟩
      rcases (mput_mem he r).1 hm with hm | hm
      · exact h'.1 hm
      · rw [(he _ _).2 hm.symm] at hq; cases hq
theorem mput_len {k : ks.D} {v : vs.D} : ∀ xs : List (ks.D × vs.D), (mput ks vs xs k v).length ≤ xs.length + 1
  | [] => by simp [mput]
  | y :: r => by
    unfold mput
    cases ks.eqb k y.1 with
    | true => simp
    | false => simp [mput_len r]
end
abbrev wS : Sch := .pair (.int .i64) (.pair (.int .i64) (.pair (.int .i64) (.int .i64)))
theorem wS_eqb (a b : wS.D) : wS.eqb a b = true ↔ a = b := by
  obtain ⟨a1, a2, a3, a4⟩ := a
  obtain ⟨b1, b2, b3, b4⟩ := b
  simp only [Sch.eqb, Bool.and_eq_true, beq_iff_eq, Prod.mk.injEq]
abbrev Kn := List (WV × Bool)
def putK (m : Kn) (v : WV) : Kn := mput wS .bool m v true
def putAll (m : Kn) (l : List WV) : Kn := l.foldl putK m
theorem putAll_append (m : Kn) (a b : List WV) : putAll m (a ++ b) = putAll (putAll m a) b := List.foldl_append
theorem putAll_mem {x : WV} : ∀ (l : List WV) (m : Kn), x ∈ (putAll m l).map (·.1) ↔ x ∈ m.map (·.1) ∨ x ∈ l
  | [], m => by simp [putAll]
  | v :: r, m => by
    show x ∈ (putAll (putK m v) r).map (·.1) ↔ _
    rw [putAll_mem r, show x ∈ (putK m v).map (·.1) ↔ _ from mput_mem (ks := wS) (vs := .bool) wS_eqb m, List.mem_cons, or_assoc]
theorem putAll_nodup : ∀ (l : List WV) (m : Kn), (m.map (·.1)).Nodup → ((putAll m l).map (·.1)).Nodup
  | [], m, h => h
  | v :: r, m, h => putAll_nodup r _ (mput_nodup (ks := wS) (vs := .bool) wS_eqb m h)
theorem putAll_len : ∀ (l : List WV) (m : Kn), (putAll m l).length ≤ m.length + l.length
  | [], m => by simp [putAll]
  | v :: r, m => by
    have h1 := putAll_len r (putK m v)
    have h2 : (putK m v).length ≤ m.length + 1 := mput_len (ks := wS) (vs := .bool) m
    show (putAll (putK m v) r).length ≤ _
    simp only [List.length_cons]
    omega

/-! ### candidates -/
def endR (r : Int × Int) (n : Nat) : Int := if n % 2 = 1 then r.2 else r.1
def rows3 (l : List Rd) (a b c : Nat) : M3 := ((l.getD a rd0).1, (l.getD b rd0).1, (l.getD c rd0).1)
def ends3 (l : List Rd) (a b c e : Nat) : V3 := (endR (l.getD a rd0).2 e, endR (l.getD b rd0).2 (e / 2), endR (l.getD c rd0).2 (e / 4))
def sol1 (l : List Rd) (a b c e : Nat) : WV := lowV (solP (rows3 l a b c, ends3 l a b c e)) (solD (rows3 l a b c, ends3 l a b c e) 1)
def candE (l : List Rd) (a b c e : Nat) : List WV := if l.all (agR · (sol1 l a b c e)) = true then [sol1 l a b c e] else []
def candA (l : List Rd) (c b a : Nat) : List WV := if w64 (det3 (rows3 l a b c)) = 0 then [] else (List.range 8).flatMap (candE l a b c)
def candB (l : List Rd) (c b : Nat) : List WV := (List.range b).flatMap (candA l c b)
def candC (l : List Rd) (c : Nat) : List WV := (List.range c).flatMap (candB l c)
def cands (l : List Rd) : List WV := (List.range l.length).flatMap (candC l)
def vtx (l : List Rd) : List WV := sortW (cands l)
theorem flatMap_succ {α : Type} (f : Nat → List α) (n : Nat) : (List.range (n + 1)).flatMap f = (List.range n).flatMap f ++ f n := by
  rw [List.range_succ, List.flatMap_append]; simp
theorem flatMap_len {α : Type} (f : Nat → List α) (m : Nat) : ∀ n : Nat, (∀ i, i < n → (f i).length ≤ m) → ((List.range n).flatMap f).length ≤ n * m
  | 0, _ => by simp
  | n + 1, h => by
    have h1 := flatMap_len f m n fun i hi => h i (by omega)
    have h2 := h n (by omega)
    rw [flatMap_succ, List.length_append, Nat.add_mul, Nat.one_mul]
    omega

/-! ### sizes -/
/-- Readings whose numbers are in their bounds. -/
structure RdLe (l : List Rd) : Prop where
  len : l.length ≤ 8
  dir : ∀ r ∈ l, V3.le r.1 9
  rng : ∀ r ∈ l, (-10000 ≤ r.2.1 ∧ r.2.1 ≤ 10000) ∧ -10000 ≤ r.2.2 ∧ r.2.2 ≤ 10000
theorem RdOK.rdLe {l : List Rd} (h : RdOK l) : RdLe l := ⟨by have := h.six; omega, fun r hr => (h.dir r hr).1, fun r hr => by have := h.rng r hr; omega⟩
def m0 (m : M3) : V3 := (m.1.1, m.2.1.1, m.2.2.1)
def m1 (m : M3) : V3 := (m.1.2.1, m.2.1.2.1, m.2.2.2.1)
def m2 (m : M3) : V3 := (m.1.2.2, m.2.1.2.2, m.2.2.2.2)
theorem det_c0 (m : M3) (v : V3) : det3 (c0 m v) = dot v (cross (m1 m) (m2 m)) := by simp only [det3, det, dot, cross, c0, m1, m2]; grind
theorem det_c1 (m : M3) (v : V3) : det3 (c1 m v) = dot v (cross (m2 m) (m0 m)) := by simp only [det3, det, dot, cross, c1, m0, m2]; grind
theorem det_c2 (m : M3) (v : V3) : det3 (c2 m v) = dot v (cross (m0 m) (m1 m)) := by simp only [det3, det, dot, cross, c2, m0, m1]; grind
structure Sml (m : M3) (v : V3) : Prop where
  a : V3.le m.1 9
  b : V3.le m.2.1 9
  c : V3.le m.2.2 9
  v : V3.le v 10000
theorem Sml.det {m : M3} {v : V3} (h : Sml m v) : -4374 ≤ det3 m ∧ det3 m ≤ 4374 := by
  have := det_le h.a h.b h.c
  exact ⟨by unfold det3; omega, by unfold det3; omega⟩
theorem Sml.cs {m : M3} {v : V3} (h : Sml m v) : V3.le (det3 (c0 m v), det3 (c1 m v), det3 (c2 m v)) 4860000 := by
  have q0 : V3.le (m0 m) 9 := ⟨h.a.1, h.b.1, h.c.1⟩
  have q1 : V3.le (m1 m) 9 := ⟨h.a.2.1, h.b.2.1, h.c.2.1⟩
  have q2 : V3.le (m2 m) 9 := ⟨h.a.2.2, h.b.2.2, h.c.2.2⟩
  have e0 := dot_le h.v (cross_le q1 q2)
  have e1 := dot_le h.v (cross_le q2 q0)
  have e2 := dot_le h.v (cross_le q0 q1)
  rw [← det_c0] at e0
  rw [← det_c1] at e1
  rw [← det_c2] at e2
  have k0 : -4860000 ≤ det3 (c0 m v) ∧ det3 (c0 m v) ≤ 4860000 := ⟨by omega, by omega⟩
  have k1 : -4860000 ≤ det3 (c1 m v) ∧ det3 (c1 m v) ≤ 4860000 := ⟨by omega, by omega⟩
  have k2 : -4860000 ≤ det3 (c2 m v) ∧ det3 (c2 m v) ≤ 4860000 := ⟨by omega, by omega⟩
  exact ⟨k0, k1, k2⟩
theorem Sml.solP {m : M3} {v : V3} (h : Sml m v) : solP (m, v) = (det3 (c0 m v), det3 (c1 m v), det3 (c2 m v)) := by
  obtain ⟨h1, h2, h3⟩ := h.cs
  show (w64 _, w64 _, w64 _) = _
  rw [w64_fit (fit_le h1 (by omega)), w64_fit (fit_le h2 (by omega)), w64_fit (fit_le h3 (by omega))]
theorem Sml.w {m : M3} {v : V3} (h : Sml m v) : w64 (det3 m) = det3 m := w64_fit (fit_le h.det (by omega))
theorem Sml.solD {m : M3} {v : V3} (h : Sml m v) : solD (m, v) 1 = det3 m := by
  show w64 (1 * w64 (det3 m)) = _
  rw [h.w, Int.one_mul, h.w]
theorem getD_mem {α : Type} {l : List α} {d : α} {i : Nat} (h : i < l.length) : l.getD i d ∈ l := by rw [getD_lt h]; exact List.getElem_mem _
theorem RdLe.sml {l : List Rd} (h : RdLe l) {a b c : Nat} (ha : a < l.length) (hb : b < l.length) (hc : c < l.length) (e : Nat) : Sml (rows3 l a b c) (ends3 l a b c e) := by
  have er : ∀ r ∈ l, ∀ n, -10000 ≤ endR r.2 n ∧ endR r.2 n ≤ 10000 := fun r hr n => by
    have := h.rng r hr
    unfold endR
    split
    · exact this.2
    · exact this.1
  exact ⟨h.dir _ (getD_mem ha), h.dir _ (getD_mem hb), h.dir _ (getD_mem hc), er _ (getD_mem ha) _, er _ (getD_mem hb) _, er _ (getD_mem hc) _⟩
theorem sol1_eq {l : List Rd} (h : RdLe l) {a b c : Nat} (ha : a < l.length) (hb : b < l.length) (hc : c < l.length) (e : Nat) :
    sol1 l a b c e = lowV (det3 (c0 (rows3 l a b c) (ends3 l a b c e)), det3 (c1 (rows3 l a b c) (ends3 l a b c e)), det3 (c2 (rows3 l a b c) (ends3 l a b c e))) (det3 (rows3 l a b c)) := by
  unfold sol1; rw [(h.sml ha hb hc e).solP, (h.sml ha hb hc e).solD]
/-- A solved wind is in lowest terms, and not great. -/
theorem sol1_ok {l : List Rd} (h : RdLe l) {a b c : Nat} (ha : a < l.length) (hb : b < l.length) (hc : c < l.length) (e : Nat) (hd : det3 (rows3 l a b c) ≠ 0) :
    WOK (sol1 l a b c e) ∧ (sol1 l a b c e).2.2.2 ≤ 4374 ∧ V3.le (wpt (sol1 l a b c e)) 4860000 := by
  rw [sol1_eq h ha hb hc]
  have hs := h.sml ha hb hc e
  have := lowV_le hs.cs hs.det
  exact ⟨lowV_ok hd, this.2, this.1⟩
/-- What is among the candidates. -/
theorem cands_mem {l : List Rd} {v : WV} : v ∈ cands l ↔ ∃ a b c e, a < b ∧ b < c ∧ c < l.length ∧ e < 8 ∧ w64 (det3 (rows3 l a b c)) ≠ 0 ∧ v = sol1 l a b c e ∧ l.all (agR · v) = true := by
  simp only [cands, candC, candB, List.mem_flatMap, List.mem_range]
  constructor
  · rintro ⟨c, hc, b, hb, a, ha, hm⟩
    unfold candA at hm
    split at hm
    · cases hm
    · rename_i hd
      simp only [List.mem_flatMap, List.mem_range] at hm
      obtain ⟨e, he, hm⟩ := hm
      unfold candE at hm
      split at hm
      · rename_i hg
        rw [List.mem_singleton] at hm
        exact ⟨a, b, c, e, ha, hb, hc, he, hd, hm, by rw [hm]; exact hg⟩
      · cases hm
  · rintro ⟨a, b, c, e, ha, hb, hc, he, hd, rfl, hg⟩
    refine ⟨c, hc, b, hb, a, ha, ?_⟩
    unfold candA
    rw [if_neg hd]
    simp only [List.mem_flatMap, List.mem_range]
    refine ⟨e, he, ?_⟩
    unfold candE
    rw [if_pos hg]
    exact .head _
theorem cands_ok {l : List Rd} (h : RdLe l) : ∀ v ∈ cands l, WOK v ∧ v.2.2.2 ≤ 4374 ∧ V3.le (wpt v) 4860000 := fun v hv => by
  obtain ⟨a, b, c, e, ha, hb, hc, he, hd, rfl, hg⟩ := cands_mem.1 hv
  rw [(h.sml (by omega) (by omega) hc e : Sml (rows3 l a b c) _).w] at hd
  exact sol1_ok h (by omega) (by omega) hc e hd
theorem cands_len {l : List Rd} (h : RdLe l) : (cands l).length ≤ 4096 := by
  have hE : ∀ a b c e, (candE l a b c e).length ≤ 1 := fun a b c e => by unfold candE; split <;> simp
  have hA : ∀ c b a, (candA l c b a).length ≤ 8 := fun c b a => by
    unfold candA
    split
    · simp
    · exact flatMap_len _ 1 8 fun e _ => hE a b c e
  have hB : ∀ c b, b ≤ 8 → (candB l c b).length ≤ 64 := fun c b hb => Nat.le_trans (flatMap_len _ 8 b fun a _ => hA c b a) (by omega)
  have hC : ∀ c, c ≤ 8 → (candC l c).length ≤ 512 := fun c hc => Nat.le_trans (flatMap_len _ 64 c fun b hb => hB c b (by omega)) (by omega)
  have := flatMap_len (candC l) 512 l.length fun c hc => hC c (by have := h.len; omega)
  have := h.len
  unfold cands
  omega
theorem vtx_asc {l : List Rd} (h : RdLe l) : Asc (vtx l) := sortW_asc fun w hw => (cands_ok h w hw).1
theorem vtx_mem {l : List Rd} {v : WV} : v ∈ vtx l ↔ v ∈ cands l := sortW_mem
end Go.Pi
end

section
namespace Go.Proofs.YtglijnhkdnhofaaGreat
open Go Go.Pi Go.RowKit
set_option maxRecDepth 100000
set_option linter.unusedVariables false
set_option linter.unusedSimpArgs false

def f59 (l : List ((Int × Int × Int) × Int × Int)) : List (Int × Int × Int × Int) := vtx l
def f59_pre (l : List ((Int × Int × Int) × Int × Int)) : Prop := RdLe l
theorem bit0 : ∀ e : Fin 8, ((IntKind.i64.wrap (((BitVec.ofInt IntKind.i64.bits ((e.1 : Int).fdiv (2 ^ 0)) &&& BitVec.ofInt IntKind.i64.bits 1).toNat : Nat))) == 1) = decide (e.1 % 2 = 1) := by decide
theorem bit1 : ∀ e : Fin 8, ((IntKind.i64.wrap (((BitVec.ofInt IntKind.i64.bits ((e.1 : Int).fdiv (2 ^ 1)) &&& BitVec.ofInt IntKind.i64.bits 1).toNat : Nat))) == 1) = decide (e.1 / 2 % 2 = 1) := by decide
theorem bit2 : ∀ e : Fin 8, ((IntKind.i64.wrap (((BitVec.ofInt IntKind.i64.bits ((e.1 : Int).fdiv (2 ^ 2)) &&& BitVec.ofInt IntKind.i64.bits 1).toNat : Nat))) == 1) = decide (e.1 / 4 % 2 = 1) := by decide
theorem putAll_snoc (m : Kn) (f : Nat → List WV) (n : Nat) : putAll m ((List.range (n + 1)).flatMap f) = putAll (putAll m ((List.range n).flatMap f)) (f n) := by rw [flatMap_succ, putAll_append]
theorem erase_perm {α : Type} {l : List α} {i : Nat} (h : i < l.length) : (l[i] :: l.eraseIdx i).Perm l := by
  have e : l = l.take i ++ l[i] :: l.drop (i + 1) := by rw [← List.drop_eq_getElem_cons h, List.take_append_drop]
  rw [List.eraseIdx_eq_take_drop_succ]
  have := (List.perm_middle (a := l[i]) (l₁ := l.take i) (l₂ := l.drop (i + 1))).symm
  rwa [← e] at this
def f59_e : Entry := { doms := [(false, (.sl (.pair (.pair (.int .i64) (.pair (.int .i64) (.int .i64))) (.pair (.int .i64) (.int .i64)))))], cods := [(false, (.sl (.pair (.int .i64) (.pair (.int .i64) (.pair (.int .i64) (.int .i64))))))], pre := f59_pre, fn := f59, uq := false, total := false }
def f59_E : Env := [(96, f96_e), (108, f108_e), (109, f109_e), (122, f122_e)]
def f59_A : Anns := { loops := [(1048576, { tms := [(0, .keep), (3, .keep), (19, .keep), (20, .data false (.int .i64))], obs := [(1049600, .map true false (.pair (.int .i64) (.pair (.int .i64) (.pair (.int .i64) (.int .i64)))) .bool)], fz := [] }),
  (1048578, { tms := [(0, .keep), (3, .keep), (4, .keep), (19, .keep), (20, .keep), (23, .keep), (24, .data false (.int .i64))], obs := [(1049600, .map true false (.pair (.int .i64) (.pair (.int .i64) (.pair (.int .i64) (.int .i64)))) .bool)], fz := [] }),
  (1048580, { tms := [(0, .keep), (3, .keep), (4, .keep), (5, .keep), (19, .keep), (20, .keep), (23, .keep), (24, .keep), (27, .keep), (28, .data false (.int .i64))], obs := [(1049600, .map true false (.pair (.int .i64) (.pair (.int .i64) (.pair (.int .i64) (.int .i64)))) .bool)], fz := [] }),
  (1048584, { tms := [(0, .keep), (3, .keep), (4, .keep), (5, .keep), (7, .keep), (8, .keep), (19, .keep), (20, .keep), (23, .keep), (24, .keep), (27, .keep), (28, .keep), (59, .data false (.int .i64))], obs := [(1049600, .map true false (.pair (.int .i64) (.pair (.int .i64) (.pair (.int .i64) (.int .i64)))) .bool), (1059853, .keep), (1060864, .cells [.data (.int .i64), .data (.int .i64), .data (.int .i64), .data (.int .i64), .data (.int .i64), .data (.int .i64), .data (.int .i64), .data (.int .i64), .data (.int .i64), .data (.int .i64), .data (.int .i64), .data (.int .i64)]), (1152921916924771330, .keep), (1152921916925819906, .keep), (1152921916926868482, .keep)], fz := [] }),
  (1048588, { tms := [(15, .ref 1089539), (97, .keep)], obs := [(1049600, .keep), (1086465, .it 1049600 (.pair (.int .i64) (.pair (.int .i64) (.pair (.int .i64) (.int .i64)))) .bool), (1089539, .arr (.uniq) (.pair (.int .i64) (.pair (.int .i64) (.pair (.int .i64) (.int .i64)))))], fz := [] })], own := [], unroll := 4 }
theorem f59_run (a0 : List ((Int × Int × Int) × Int × Int)) (K : (List (Int × Int × Int × Int)) → Prop) : runF Tryz.prog f59_E f59_A 6 Tryz.f59 f59_e.doms f59_e.cods a0 K =
    (br (lenOk (a0.length))
    (LoopP (V := Int × List ((Int × Int × Int × Int) × Bool) × Unit) (fun again v => (fun (again1 : Int → List ((Int × Int × Int × Int) × Bool) → Prop) (v1_0 : Int) (v1_1 : List ((Int × Int × Int × Int) × Bool)) =>
    br (decide (v1_0 < ((a0.length) : Int)))
    (LoopP (V := Int × List ((Int × Int × Int × Int) × Bool) × Unit) (fun again v => (fun (again2 : Int → List ((Int × Int × Int × Int) × Bool) → Prop) (v2_0 : Int) (v2_1 : List ((Int × Int × Int × Int) × Bool)) =>
    br (decide (v2_0 < v1_0))
    (LoopP (V := Int × List ((Int × Int × Int × Int) × Bool) × Unit) (fun again v => (fun (again3 : Int → List ((Int × Int × Int × Int) × Bool) → Prop) (v3_0 : Int) (v3_1 : List ((Int × Int × Int × Int) × Bool)) =>
    br (decide (v3_0 < v2_0))
    (br (decide (0 ≤ v3_0) && decide (v3_0 < ((a0.length) : Int)))
    (br (decide (0 ≤ v2_0) && decide (v2_0 < ((a0.length) : Int)))
    (br (decide (0 ≤ v1_0) && decide (v1_0 < ((a0.length) : Int)))
    (br ((f109 ((((a0.getD v3_0.toNat ((0, (0, 0)), (0, 0))).1).1, (((a0.getD v3_0.toNat ((0, (0, 0)), (0, 0))).1).2)), ((((a0.getD v2_0.toNat ((0, (0, 0)), (0, 0))).1).1, (((a0.getD v2_0.toNat ((0, (0, 0)), (0, 0))).1).2)), (((a0.getD v1_0.toNat ((0, (0, 0)), (0, 0))).1).1, (((a0.getD v1_0.toNat ((0, (0, 0)), (0, 0))).1).2))))) == 0)
    (again3 (IntKind.i64.wrap (v3_0 + 1)) v3_1)
    (LoopP (V := Int × List ((Int × Int × Int × Int) × Bool) × Int × Int × Int × Int × Int × Int × Int × Int × Int × Int × Int × Int × Unit) (fun again v => (fun (again4 : Int → List ((Int × Int × Int × Int) × Bool) → Int → Int → Int → Int → Int → Int → Int → Int → Int → Int → Int → Int → Prop) (v4_0 : Int) (v4_1 : List ((Int × Int × Int × Int) × Bool)) (v4_2 : Int) (v4_3 : Int) (v4_4 : Int) (v4_5 : Int) (v4_6 : Int) (v4_7 : Int) (v4_8 : Int) (v4_9 : Int) (v4_10 : Int) (v4_11 : Int) (v4_12 : Int) (v4_13 : Int) =>
    br (decide (v4_0 < 8))
    (br ((IntKind.i64.wrap (((BitVec.ofInt IntKind.i64.bits (v4_0.fdiv (2 ^ 0)) &&& BitVec.ofInt IntKind.i64.bits 1).toNat : Nat))) == 1)
    (br ((IntKind.i64.wrap (((BitVec.ofInt IntKind.i64.bits (v4_0.fdiv (2 ^ 1)) &&& BitVec.ofInt IntKind.i64.bits 1).toNat : Nat))) == 1)
    (br ((IntKind.i64.wrap (((BitVec.ofInt IntKind.i64.bits (v4_0.fdiv (2 ^ 2)) &&& BitVec.ofInt IntKind.i64.bits 1).toNat : Nat))) == 1)
    (f108_pre ((((v4_2, (v4_3, v4_4)), ((v4_5, (v4_6, v4_7)), (v4_8, (v4_9, v4_10)))), (((a0.getD v3_0.toNat ((0, (0, 0)), (0, 0))).2).2, (((a0.getD v2_0.toNat ((0, (0, 0)), (0, 0))).2).2, ((a0.getD v1_0.toNat ((0, (0, 0)), (0, 0))).2).2))), 1) ∧
    br (f96 (a0, ((f108 ((((v4_2, (v4_3, v4_4)), ((v4_5, (v4_6, v4_7)), (v4_8, (v4_9, v4_10)))), (((a0.getD v3_0.toNat ((0, (0, 0)), (0, 0))).2).2, (((a0.getD v2_0.toNat ((0, (0, 0)), (0, 0))).2).2, ((a0.getD v1_0.toNat ((0, (0, 0)), (0, 0))).2).2))), 1)).1, (((f108 ((((v4_2, (v4_3, v4_4)), ((v4_5, (v4_6, v4_7)), (v4_8, (v4_9, v4_10)))), (((a0.getD v3_0.toNat ((0, (0, 0)), (0, 0))).2).2, (((a0.getD v2_0.toNat ((0, (0, 0)), (0, 0))).2).2, ((a0.getD v1_0.toNat ((0, (0, 0)), (0, 0))).2).2))), 1)).2).1, (((f108 ((((v4_2, (v4_3, v4_4)), ((v4_5, (v4_6, v4_7)), (v4_8, (v4_9, v4_10)))), (((a0.getD v3_0.toNat ((0, (0, 0)), (0, 0))).2).2, (((a0.getD v2_0.toNat ((0, (0, 0)), (0, 0))).2).2, ((a0.getD v1_0.toNat ((0, (0, 0)), (0, 0))).2).2))), 1)).2).2)))))
    (again4 (IntKind.i64.wrap (v4_0 + 1)) (mput (.pair (.int .i64) (.pair (.int .i64) (.pair (.int .i64) (.int .i64)))) .bool v4_1 ((f108 ((((v4_2, (v4_3, v4_4)), ((v4_5, (v4_6, v4_7)), (v4_8, (v4_9, v4_10)))), (((a0.getD v3_0.toNat ((0, (0, 0)), (0, 0))).2).2, (((a0.getD v2_0.toNat ((0, (0, 0)), (0, 0))).2).2, ((a0.getD v1_0.toNat ((0, (0, 0)), (0, 0))).2).2))), 1)).1, (((f108 ((((v4_2, (v4_3, v4_4)), ((v4_5, (v4_6, v4_7)), (v4_8, (v4_9, v4_10)))), (((a0.getD v3_0.toNat ((0, (0, 0)), (0, 0))).2).2, (((a0.getD v2_0.toNat ((0, (0, 0)), (0, 0))).2).2, ((a0.getD v1_0.toNat ((0, (0, 0)), (0, 0))).2).2))), 1)).2).1, (((f108 ((((v4_2, (v4_3, v4_4)), ((v4_5, (v4_6, v4_7)), (v4_8, (v4_9, v4_10)))), (((a0.getD v3_0.toNat ((0, (0, 0)), (0, 0))).2).2, (((a0.getD v2_0.toNat ((0, (0, 0)), (0, 0))).2).2, ((a0.getD v1_0.toNat ((0, (0, 0)), (0, 0))).2).2))), 1)).2).2))) true) v4_2 v4_3 v4_4 v4_5 v4_6 v4_7 v4_8 v4_9 v4_10 (((a0.getD v3_0.toNat ((0, (0, 0)), (0, 0))).2).2) (((a0.getD v2_0.toNat ((0, (0, 0)), (0, 0))).2).2) (((a0.getD v1_0.toNat ((0, (0, 0)), (0, 0))).2).2))
    (again4 (IntKind.i64.wrap (v4_0 + 1)) v4_1 v4_2 v4_3 v4_4 v4_5 v4_6 v4_7 v4_8 v4_9 v4_10 (((a0.getD v3_0.toNat ((0, (0, 0)), (0, 0))).2).2) (((a0.getD v2_0.toNat ((0, (0, 0)), (0, 0))).2).2) (((a0.getD v1_0.toNat ((0, (0, 0)), (0, 0))).2).2)))
    (f108_pre ((((v4_2, (v4_3, v4_4)), ((v4_5, (v4_6, v4_7)), (v4_8, (v4_9, v4_10)))), (((a0.getD v3_0.toNat ((0, (0, 0)), (0, 0))).2).2, (((a0.getD v2_0.toNat ((0, (0, 0)), (0, 0))).2).2, ((a0.getD v1_0.toNat ((0, (0, 0)), (0, 0))).2).1))), 1) ∧
    br (f96 (a0, ((f108 ((((v4_2, (v4_3, v4_4)), ((v4_5, (v4_6, v4_7)), (v4_8, (v4_9, v4_10)))), (((a0.getD v3_0.toNat ((0, (0, 0)), (0, 0))).2).2, (((a0.getD v2_0.toNat ((0, (0, 0)), (0, 0))).2).2, ((a0.getD v1_0.toNat ((0, (0, 0)), (0, 0))).2).1))), 1)).1, (((f108 ((((v4_2, (v4_3, v4_4)), ((v4_5, (v4_6, v4_7)), (v4_8, (v4_9, v4_10)))), (((a0.getD v3_0.toNat ((0, (0, 0)), (0, 0))).2).2, (((a0.getD v2_0.toNat ((0, (0, 0)), (0, 0))).2).2, ((a0.getD v1_0.toNat ((0, (0, 0)), (0, 0))).2).1))), 1)).2).1, (((f108 ((((v4_2, (v4_3, v4_4)), ((v4_5, (v4_6, v4_7)), (v4_8, (v4_9, v4_10)))), (((a0.getD v3_0.toNat ((0, (0, 0)), (0, 0))).2).2, (((a0.getD v2_0.toNat ((0, (0, 0)), (0, 0))).2).2, ((a0.getD v1_0.toNat ((0, (0, 0)), (0, 0))).2).1))), 1)).2).2)))))
    (again4 (IntKind.i64.wrap (v4_0 + 1)) (mput (.pair (.int .i64) (.pair (.int .i64) (.pair (.int .i64) (.int .i64)))) .bool v4_1 ((f108 ((((v4_2, (v4_3, v4_4)), ((v4_5, (v4_6, v4_7)), (v4_8, (v4_9, v4_10)))), (((a0.getD v3_0.toNat ((0, (0, 0)), (0, 0))).2).2, (((a0.getD v2_0.toNat ((0, (0, 0)), (0, 0))).2).2, ((a0.getD v1_0.toNat ((0, (0, 0)), (0, 0))).2).1))), 1)).1, (((f108 ((((v4_2, (v4_3, v4_4)), ((v4_5, (v4_6, v4_7)), (v4_8, (v4_9, v4_10)))), (((a0.getD v3_0.toNat ((0, (0, 0)), (0, 0))).2).2, (((a0.getD v2_0.toNat ((0, (0, 0)), (0, 0))).2).2, ((a0.getD v1_0.toNat ((0, (0, 0)), (0, 0))).2).1))), 1)).2).1, (((f108 ((((v4_2, (v4_3, v4_4)), ((v4_5, (v4_6, v4_7)), (v4_8, (v4_9, v4_10)))), (((a0.getD v3_0.toNat ((0, (0, 0)), (0, 0))).2).2, (((a0.getD v2_0.toNat ((0, (0, 0)), (0, 0))).2).2, ((a0.getD v1_0.toNat ((0, (0, 0)), (0, 0))).2).1))), 1)).2).2))) true) v4_2 v4_3 v4_4 v4_5 v4_6 v4_7 v4_8 v4_9 v4_10 (((a0.getD v3_0.toNat ((0, (0, 0)), (0, 0))).2).2) (((a0.getD v2_0.toNat ((0, (0, 0)), (0, 0))).2).2) (((a0.getD v1_0.toNat ((0, (0, 0)), (0, 0))).2).1))
    (again4 (IntKind.i64.wrap (v4_0 + 1)) v4_1 v4_2 v4_3 v4_4 v4_5 v4_6 v4_7 v4_8 v4_9 v4_10 (((a0.getD v3_0.toNat ((0, (0, 0)), (0, 0))).2).2) (((a0.getD v2_0.toNat ((0, (0, 0)), (0, 0))).2).2) (((a0.getD v1_0.toNat ((0, (0, 0)), (0, 0))).2).1))))
    (br ((IntKind.i64.wrap (((BitVec.ofInt IntKind.i64.bits (v4_0.fdiv (2 ^ 2)) &&& BitVec.ofInt IntKind.i64.bits 1).toNat : Nat))) == 1)
    (f108_pre ((((v4_2, (v4_3, v4_4)), ((v4_5, (v4_6, v4_7)), (v4_8, (v4_9, v4_10)))), (((a0.getD v3_0.toNat ((0, (0, 0)), (0, 0))).2).2, (((a0.getD v2_0.toNat ((0, (0, 0)), (0, 0))).2).1, ((a0.getD v1_0.toNat ((0, (0, 0)), (0, 0))).2).2))), 1) ∧
    br (f96 (a0, ((f108 ((((v4_2, (v4_3, v4_4)), ((v4_5, (v4_6, v4_7)), (v4_8, (v4_9, v4_10)))), (((a0.getD v3_0.toNat ((0, (0, 0)), (0, 0))).2).2, (((a0.getD v2_0.toNat ((0, (0, 0)), (0, 0))).2).1, ((a0.getD v1_0.toNat ((0, (0, 0)), (0, 0))).2).2))), 1)).1, (((f108 ((((v4_2, (v4_3, v4_4)), ((v4_5, (v4_6, v4_7)), (v4_8, (v4_9, v4_10)))), (((a0.getD v3_0.toNat ((0, (0, 0)), (0, 0))).2).2, (((a0.getD v2_0.toNat ((0, (0, 0)), (0, 0))).2).1, ((a0.getD v1_0.toNat ((0, (0, 0)), (0, 0))).2).2))), 1)).2).1, (((f108 ((((v4_2, (v4_3, v4_4)), ((v4_5, (v4_6, v4_7)), (v4_8, (v4_9, v4_10)))), (((a0.getD v3_0.toNat ((0, (0, 0)), (0, 0))).2).2, (((a0.getD v2_0.toNat ((0, (0, 0)), (0, 0))).2).1, ((a0.getD v1_0.toNat ((0, (0, 0)), (0, 0))).2).2))), 1)).2).2)))))
    (again4 (IntKind.i64.wrap (v4_0 + 1)) (mput (.pair (.int .i64) (.pair (.int .i64) (.pair (.int .i64) (.int .i64)))) .bool v4_1 ((f108 ((((v4_2, (v4_3, v4_4)), ((v4_5, (v4_6, v4_7)), (v4_8, (v4_9, v4_10)))), (((a0.getD v3_0.toNat ((0, (0, 0)), (0, 0))).2).2, (((a0.getD v2_0.toNat ((0, (0, 0)), (0, 0))).2).1, ((a0.getD v1_0.toNat ((0, (0, 0)), (0, 0))).2).2))), 1)).1, (((f108 ((((v4_2, (v4_3, v4_4)), ((v4_5, (v4_6, v4_7)), (v4_8, (v4_9, v4_10)))), (((a0.getD v3_0.toNat ((0, (0, 0)), (0, 0))).2).2, (((a0.getD v2_0.toNat ((0, (0, 0)), (0, 0))).2).1, ((a0.getD v1_0.toNat ((0, (0, 0)), (0, 0))).2).2))), 1)).2).1, (((f108 ((((v4_2, (v4_3, v4_4)), ((v4_5, (v4_6, v4_7)), (v4_8, (v4_9, v4_10)))), (((a0.getD v3_0.toNat ((0, (0, 0)), (0, 0))).2).2, (((a0.getD v2_0.toNat ((0, (0, 0)), (0, 0))).2).1, ((a0.getD v1_0.toNat ((0, (0, 0)), (0, 0))).2).2))), 1)).2).2))) true) v4_2 v4_3 v4_4 v4_5 v4_6 v4_7 v4_8 v4_9 v4_10 (((a0.getD v3_0.toNat ((0, (0, 0)), (0, 0))).2).2) (((a0.getD v2_0.toNat ((0, (0, 0)), (0, 0))).2).1) (((a0.getD v1_0.toNat ((0, (0, 0)), (0, 0))).2).2))
    (again4 (IntKind.i64.wrap (v4_0 + 1)) v4_1 v4_2 v4_3 v4_4 v4_5 v4_6 v4_7 v4_8 v4_9 v4_10 (((a0.getD v3_0.toNat ((0, (0, 0)), (0, 0))).2).2) (((a0.getD v2_0.toNat ((0, (0, 0)), (0, 0))).2).1) (((a0.getD v1_0.toNat ((0, (0, 0)), (0, 0))).2).2)))
    (f108_pre ((((v4_2, (v4_3, v4_4)), ((v4_5, (v4_6, v4_7)), (v4_8, (v4_9, v4_10)))), (((a0.getD v3_0.toNat ((0, (0, 0)), (0, 0))).2).2, (((a0.getD v2_0.toNat ((0, (0, 0)), (0, 0))).2).1, ((a0.getD v1_0.toNat ((0, (0, 0)), (0, 0))).2).1))), 1) ∧
    br (f96 (a0, ((f108 ((((v4_2, (v4_3, v4_4)), ((v4_5, (v4_6, v4_7)), (v4_8, (v4_9, v4_10)))), (((a0.getD v3_0.toNat ((0, (0, 0)), (0, 0))).2).2, (((a0.getD v2_0.toNat ((0, (0, 0)), (0, 0))).2).1, ((a0.getD v1_0.toNat ((0, (0, 0)), (0, 0))).2).1))), 1)).1, (((f108 ((((v4_2, (v4_3, v4_4)), ((v4_5, (v4_6, v4_7)), (v4_8, (v4_9, v4_10)))), (((a0.getD v3_0.toNat ((0, (0, 0)), (0, 0))).2).2, (((a0.getD v2_0.toNat ((0, (0, 0)), (0, 0))).2).1, ((a0.getD v1_0.toNat ((0, (0, 0)), (0, 0))).2).1))), 1)).2).1, (((f108 ((((v4_2, (v4_3, v4_4)), ((v4_5, (v4_6, v4_7)), (v4_8, (v4_9, v4_10)))), (((a0.getD v3_0.toNat ((0, (0, 0)), (0, 0))).2).2, (((a0.getD v2_0.toNat ((0, (0, 0)), (0, 0))).2).1, ((a0.getD v1_0.toNat ((0, (0, 0)), (0, 0))).2).1))), 1)).2).2)))))
    (again4 (IntKind.i64.wrap (v4_0 + 1)) (mput (.pair (.int .i64) (.pair (.int .i64) (.pair (.int .i64) (.int .i64)))) .bool v4_1 ((f108 ((((v4_2, (v4_3, v4_4)), ((v4_5, (v4_6, v4_7)), (v4_8, (v4_9, v4_10)))), (((a0.getD v3_0.toNat ((0, (0, 0)), (0, 0))).2).2, (((a0.getD v2_0.toNat ((0, (0, 0)), (0, 0))).2).1, ((a0.getD v1_0.toNat ((0, (0, 0)), (0, 0))).2).1))), 1)).1, (((f108 ((((v4_2, (v4_3, v4_4)), ((v4_5, (v4_6, v4_7)), (v4_8, (v4_9, v4_10)))), (((a0.getD v3_0.toNat ((0, (0, 0)), (0, 0))).2).2, (((a0.getD v2_0.toNat ((0, (0, 0)), (0, 0))).2).1, ((a0.getD v1_0.toNat ((0, (0, 0)), (0, 0))).2).1))), 1)).2).1, (((f108 ((((v4_2, (v4_3, v4_4)), ((v4_5, (v4_6, v4_7)), (v4_8, (v4_9, v4_10)))), (((a0.getD v3_0.toNat ((0, (0, 0)), (0, 0))).2).2, (((a0.getD v2_0.toNat ((0, (0, 0)), (0, 0))).2).1, ((a0.getD v1_0.toNat ((0, (0, 0)), (0, 0))).2).1))), 1)).2).2))) true) v4_2 v4_3 v4_4 v4_5 v4_6 v4_7 v4_8 v4_9 v4_10 (((a0.getD v3_0.toNat ((0, (0, 0)), (0, 0))).2).2) (((a0.getD v2_0.toNat ((0, (0, 0)), (0, 0))).2).1) (((a0.getD v1_0.toNat ((0, (0, 0)), (0, 0))).2).1))
    (again4 (IntKind.i64.wrap (v4_0 + 1)) v4_1 v4_2 v4_3 v4_4 v4_5 v4_6 v4_7 v4_8 v4_9 v4_10 (((a0.getD v3_0.toNat ((0, (0, 0)), (0, 0))).2).2) (((a0.getD v2_0.toNat ((0, (0, 0)), (0, 0))).2).1) (((a0.getD v1_0.toNat ((0, (0, 0)), (0, 0))).2).1)))))
    (br ((IntKind.i64.wrap (((BitVec.ofInt IntKind.i64.bits (v4_0.fdiv (2 ^ 1)) &&& BitVec.ofInt IntKind.i64.bits 1).toNat : Nat))) == 1)
    (br ((IntKind.i64.wrap (((BitVec.ofInt IntKind.i64.bits (v4_0.fdiv (2 ^ 2)) &&& BitVec.ofInt IntKind.i64.bits 1).toNat : Nat))) == 1)
    (f108_pre ((((v4_2, (v4_3, v4_4)), ((v4_5, (v4_6, v4_7)), (v4_8, (v4_9, v4_10)))), (((a0.getD v3_0.toNat ((0, (0, 0)), (0, 0))).2).1, (((a0.getD v2_0.toNat ((0, (0, 0)), (0, 0))).2).2, ((a0.getD v1_0.toNat ((0, (0, 0)), (0, 0))).2).2))), 1) ∧
    br (f96 (a0, ((f108 ((((v4_2, (v4_3, v4_4)), ((v4_5, (v4_6, v4_7)), (v4_8, (v4_9, v4_10)))), (((a0.getD v3_0.toNat ((0, (0, 0)), (0, 0))).2).1, (((a0.getD v2_0.toNat ((0, (0, 0)), (0, 0))).2).2, ((a0.getD v1_0.toNat ((0, (0, 0)), (0, 0))).2).2))), 1)).1, (((f108 ((((v4_2, (v4_3, v4_4)), ((v4_5, (v4_6, v4_7)), (v4_8, (v4_9, v4_10)))), (((a0.getD v3_0.toNat ((0, (0, 0)), (0, 0))).2).1, (((a0.getD v2_0.toNat ((0, (0, 0)), (0, 0))).2).2, ((a0.getD v1_0.toNat ((0, (0, 0)), (0, 0))).2).2))), 1)).2).1, (((f108 ((((v4_2, (v4_3, v4_4)), ((v4_5, (v4_6, v4_7)), (v4_8, (v4_9, v4_10)))), (((a0.getD v3_0.toNat ((0, (0, 0)), (0, 0))).2).1, (((a0.getD v2_0.toNat ((0, (0, 0)), (0, 0))).2).2, ((a0.getD v1_0.toNat ((0, (0, 0)), (0, 0))).2).2))), 1)).2).2)))))
    (again4 (IntKind.i64.wrap (v4_0 + 1)) (mput (.pair (.int .i64) (.pair (.int .i64) (.pair (.int .i64) (.int .i64)))) .bool v4_1 ((f108 ((((v4_2, (v4_3, v4_4)), ((v4_5, (v4_6, v4_7)), (v4_8, (v4_9, v4_10)))), (((a0.getD v3_0.toNat ((0, (0, 0)), (0, 0))).2).1, (((a0.getD v2_0.toNat ((0, (0, 0)), (0, 0))).2).2, ((a0.getD v1_0.toNat ((0, (0, 0)), (0, 0))).2).2))), 1)).1, (((f108 ((((v4_2, (v4_3, v4_4)), ((v4_5, (v4_6, v4_7)), (v4_8, (v4_9, v4_10)))), (((a0.getD v3_0.toNat ((0, (0, 0)), (0, 0))).2).1, (((a0.getD v2_0.toNat ((0, (0, 0)), (0, 0))).2).2, ((a0.getD v1_0.toNat ((0, (0, 0)), (0, 0))).2).2))), 1)).2).1, (((f108 ((((v4_2, (v4_3, v4_4)), ((v4_5, (v4_6, v4_7)), (v4_8, (v4_9, v4_10)))), (((a0.getD v3_0.toNat ((0, (0, 0)), (0, 0))).2).1, (((a0.getD v2_0.toNat ((0, (0, 0)), (0, 0))).2).2, ((a0.getD v1_0.toNat ((0, (0, 0)), (0, 0))).2).2))), 1)).2).2))) true) v4_2 v4_3 v4_4 v4_5 v4_6 v4_7 v4_8 v4_9 v4_10 (((a0.getD v3_0.toNat ((0, (0, 0)), (0, 0))).2).1) (((a0.getD v2_0.toNat ((0, (0, 0)), (0, 0))).2).2) (((a0.getD v1_0.toNat ((0, (0, 0)), (0, 0))).2).2))
    (again4 (IntKind.i64.wrap (v4_0 + 1)) v4_1 v4_2 v4_3 v4_4 v4_5 v4_6 v4_7 v4_8 v4_9 v4_10 (((a0.getD v3_0.toNat ((0, (0, 0)), (0, 0))).2).1) (((a0.getD v2_0.toNat ((0, (0, 0)), (0, 0))).2).2) (((a0.getD v1_0.toNat ((0, (0, 0)), (0, 0))).2).2)))
    (f108_pre ((((v4_2, (v4_3, v4_4)), ((v4_5, (v4_6, v4_7)), (v4_8, (v4_9, v4_10)))), (((a0.getD v3_0.toNat ((0, (0, 0)), (0, 0))).2).1, (((a0.getD v2_0.toNat ((0, (0, 0)), (0, 0))).2).2, ((a0.getD v1_0.toNat ((0, (0, 0)), (0, 0))).2).1))), 1) ∧
    br (f96 (a0, ((f108 ((((v4_2, (v4_3, v4_4)), ((v4_5, (v4_6, v4_7)), (v4_8, (v4_9, v4_10)))), (((a0.getD v3_0.toNat ((0, (0, 0)), (0, 0))).2).1, (((a0.getD v2_0.toNat ((0, (0, 0)), (0, 0))).2).2, ((a0.getD v1_0.toNat ((0, (0, 0)), (0, 0))).2).1))), 1)).1, (((f108 ((((v4_2, (v4_3, v4_4)), ((v4_5, (v4_6, v4_7)), (v4_8, (v4_9, v4_10)))), (((a0.getD v3_0.toNat ((0, (0, 0)), (0, 0))).2).1, (((a0.getD v2_0.toNat ((0, (0, 0)), (0, 0))).2).2, ((a0.getD v1_0.toNat ((0, (0, 0)), (0, 0))).2).1))), 1)).2).1, (((f108 ((((v4_2, (v4_3, v4_4)), ((v4_5, (v4_6, v4_7)), (v4_8, (v4_9, v4_10)))), (((a0.getD v3_0.toNat ((0, (0, 0)), (0, 0))).2).1, (((a0.getD v2_0.toNat ((0, (0, 0)), (0, 0))).2).2, ((a0.getD v1_0.toNat ((0, (0, 0)), (0, 0))).2).1))), 1)).2).2)))))
    (again4 (IntKind.i64.wrap (v4_0 + 1)) (mput (.pair (.int .i64) (.pair (.int .i64) (.pair (.int .i64) (.int .i64)))) .bool v4_1 ((f108 ((((v4_2, (v4_3, v4_4)), ((v4_5, (v4_6, v4_7)), (v4_8, (v4_9, v4_10)))), (((a0.getD v3_0.toNat ((0, (0, 0)), (0, 0))).2).1, (((a0.getD v2_0.toNat ((0, (0, 0)), (0, 0))).2).2, ((a0.getD v1_0.toNat ((0, (0, 0)), (0, 0))).2).1))), 1)).1, (((f108 ((((v4_2, (v4_3, v4_4)), ((v4_5, (v4_6, v4_7)), (v4_8, (v4_9, v4_10)))), (((a0.getD v3_0.toNat ((0, (0, 0)), (0, 0))).2).1, (((a0.getD v2_0.toNat ((0, (0, 0)), (0, 0))).2).2, ((a0.getD v1_0.toNat ((0, (0, 0)), (0, 0))).2).1))), 1)).2).1, (((f108 ((((v4_2, (v4_3, v4_4)), ((v4_5, (v4_6, v4_7)), (v4_8, (v4_9, v4_10)))), (((a0.getD v3_0.toNat ((0, (0, 0)), (0, 0))).2).1, (((a0.getD v2_0.toNat ((0, (0, 0)), (0, 0))).2).2, ((a0.getD v1_0.toNat ((0, (0, 0)), (0, 0))).2).1))), 1)).2).2))) true) v4_2 v4_3 v4_4 v4_5 v4_6 v4_7 v4_8 v4_9 v4_10 (((a0.getD v3_0.toNat ((0, (0, 0)), (0, 0))).2).1) (((a0.getD v2_0.toNat ((0, (0, 0)), (0, 0))).2).2) (((a0.getD v1_0.toNat ((0, (0, 0)), (0, 0))).2).1))
    (again4 (IntKind.i64.wrap (v4_0 + 1)) v4_1 v4_2 v4_3 v4_4 v4_5 v4_6 v4_7 v4_8 v4_9 v4_10 (((a0.getD v3_0.toNat ((0, (0, 0)), (0, 0))).2).1) (((a0.getD v2_0.toNat ((0, (0, 0)), (0, 0))).2).2) (((a0.getD v1_0.toNat ((0, (0, 0)), (0, 0))).2).1))))
    (br ((IntKind.i64.wrap (((BitVec.ofInt IntKind.i64.bits (v4_0.fdiv (2 ^ 2)) &&& BitVec.ofInt IntKind.i64.bits 1).toNat : Nat))) == 1)
    (f108_pre ((((v4_2, (v4_3, v4_4)), ((v4_5, (v4_6, v4_7)), (v4_8, (v4_9, v4_10)))), (((a0.getD v3_0.toNat ((0, (0, 0)), (0, 0))).2).1, (((a0.getD v2_0.toNat ((0, (0, 0)), (0, 0))).2).1, ((a0.getD v1_0.toNat ((0, (0, 0)), (0, 0))).2).2))), 1) ∧
    br (f96 (a0, ((f108 ((((v4_2, (v4_3, v4_4)), ((v4_5, (v4_6, v4_7)), (v4_8, (v4_9, v4_10)))), (((a0.getD v3_0.toNat ((0, (0, 0)), (0, 0))).2).1, (((a0.getD v2_0.toNat ((0, (0, 0)), (0, 0))).2).1, ((a0.getD v1_0.toNat ((0, (0, 0)), (0, 0))).2).2))), 1)).1, (((f108 ((((v4_2, (v4_3, v4_4)), ((v4_5, (v4_6, v4_7)), (v4_8, (v4_9, v4_10)))), (((a0.getD v3_0.toNat ((0, (0, 0)), (0, 0))).2).1, (((a0.getD v2_0.toNat ((0, (0, 0)), (0, 0))).2).1, ((a0.getD v1_0.toNat ((0, (0, 0)), (0, 0))).2).2))), 1)).2).1, (((f108 ((((v4_2, (v4_3, v4_4)), ((v4_5, (v4_6, v4_7)), (v4_8, (v4_9, v4_10)))), (((a0.getD v3_0.toNat ((0, (0, 0)), (0, 0))).2).1, (((a0.getD v2_0.toNat ((0, (0, 0)), (0, 0))).2).1, ((a0.getD v1_0.toNat ((0, (0, 0)), (0, 0))).2).2))), 1)).2).2)))))
    (again4 (IntKind.i64.wrap (v4_0 + 1)) (mput (.pair (.int .i64) (.pair (.int .i64) (.pair (.int .i64) (.int .i64)))) .bool v4_1 ((f108 ((((v4_2, (v4_3, v4_4)), ((v4_5, (v4_6, v4_7)), (v4_8, (v4_9, v4_10)))), (((a0.getD v3_0.toNat ((0, (0, 0)), (0, 0))).2).1, (((a0.getD v2_0.toNat ((0, (0, 0)), (0, 0))).2).1, ((a0.getD v1_0.toNat ((0, (0, 0)), (0, 0))).2).2))), 1)).1, (((f108 ((((v4_2, (v4_3, v4_4)), ((v4_5, (v4_6, v4_7)), (v4_8, (v4_9, v4_10)))), (((a0.getD v3_0.toNat ((0, (0, 0)), (0, 0))).2).1, (((a0.getD v2_0.toNat ((0, (0, 0)), (0, 0))).2).1, ((a0.getD v1_0.toNat ((0, (0, 0)), (0, 0))).2).2))), 1)).2).1, (((f108 ((((v4_2, (v4_3, v4_4)), ((v4_5, (v4_6, v4_7)), (v4_8, (v4_9, v4_10)))), (((a0.getD v3_0.toNat ((0, (0, 0)), (0, 0))).2).1, (((a0.getD v2_0.toNat ((0, (0, 0)), (0, 0))).2).1, ((a0.getD v1_0.toNat ((0, (0, 0)), (0, 0))).2).2))), 1)).2).2))) true) v4_2 v4_3 v4_4 v4_5 v4_6 v4_7 v4_8 v4_9 v4_10 (((a0.getD v3_0.toNat ((0, (0, 0)), (0, 0))).2).1) (((a0.getD v2_0.toNat ((0, (0, 0)), (0, 0))).2).1) (((a0.getD v1_0.toNat ((0, (0, 0)), (0, 0))).2).2))
    (again4 (IntKind.i64.wrap (v4_0 + 1)) v4_1 v4_2 v4_3 v4_4 v4_5 v4_6 v4_7 v4_8 v4_9 v4_10 (((a0.getD v3_0.toNat ((0, (0, 0)), (0, 0))).2).1) (((a0.getD v2_0.toNat ((0, (0, 0)), (0, 0))).2).1) (((a0.getD v1_0.toNat ((0, (0, 0)), (0, 0))).2).2)))
    (f108_pre ((((v4_2, (v4_3, v4_4)), ((v4_5, (v4_6, v4_7)), (v4_8, (v4_9, v4_10)))), (((a0.getD v3_0.toNat ((0, (0, 0)), (0, 0))).2).1, (((a0.getD v2_0.toNat ((0, (0, 0)), (0, 0))).2).1, ((a0.getD v1_0.toNat ((0, (0, 0)), (0, 0))).2).1))), 1) ∧
    br (f96 (a0, ((f108 ((((v4_2, (v4_3, v4_4)), ((v4_5, (v4_6, v4_7)), (v4_8, (v4_9, v4_10)))), (((a0.getD v3_0.toNat ((0, (0, 0)), (0, 0))).2).1, (((a0.getD v2_0.toNat ((0, (0, 0)), (0, 0))).2).1, ((a0.getD v1_0.toNat ((0, (0, 0)), (0, 0))).2).1))), 1)).1, (((f108 ((((v4_2, (v4_3, v4_4)), ((v4_5, (v4_6, v4_7)), (v4_8, (v4_9, v4_10)))), (((a0.getD v3_0.toNat ((0, (0, 0)), (0, 0))).2).1, (((a0.getD v2_0.toNat ((0, (0, 0)), (0, 0))).2).1, ((a0.getD v1_0.toNat ((0, (0, 0)), (0, 0))).2).1))), 1)).2).1, (((f108 ((((v4_2, (v4_3, v4_4)), ((v4_5, (v4_6, v4_7)), (v4_8, (v4_9, v4_10)))), (((a0.getD v3_0.toNat ((0, (0, 0)), (0, 0))).2).1, (((a0.getD v2_0.toNat ((0, (0, 0)), (0, 0))).2).1, ((a0.getD v1_0.toNat ((0, (0, 0)), (0, 0))).2).1))), 1)).2).2)))))
    (again4 (IntKind.i64.wrap (v4_0 + 1)) (mput (.pair (.int .i64) (.pair (.int .i64) (.pair (.int .i64) (.int .i64)))) .bool v4_1 ((f108 ((((v4_2, (v4_3, v4_4)), ((v4_5, (v4_6, v4_7)), (v4_8, (v4_9, v4_10)))), (((a0.getD v3_0.toNat ((0, (0, 0)), (0, 0))).2).1, (((a0.getD v2_0.toNat ((0, (0, 0)), (0, 0))).2).1, ((a0.getD v1_0.toNat ((0, (0, 0)), (0, 0))).2).1))), 1)).1, (((f108 ((((v4_2, (v4_3, v4_4)), ((v4_5, (v4_6, v4_7)), (v4_8, (v4_9, v4_10)))), (((a0.getD v3_0.toNat ((0, (0, 0)), (0, 0))).2).1, (((a0.getD v2_0.toNat ((0, (0, 0)), (0, 0))).2).1, ((a0.getD v1_0.toNat ((0, (0, 0)), (0, 0))).2).1))), 1)).2).1, (((f108 ((((v4_2, (v4_3, v4_4)), ((v4_5, (v4_6, v4_7)), (v4_8, (v4_9, v4_10)))), (((a0.getD v3_0.toNat ((0, (0, 0)), (0, 0))).2).1, (((a0.getD v2_0.toNat ((0, (0, 0)), (0, 0))).2).1, ((a0.getD v1_0.toNat ((0, (0, 0)), (0, 0))).2).1))), 1)).2).2))) true) v4_2 v4_3 v4_4 v4_5 v4_6 v4_7 v4_8 v4_9 v4_10 (((a0.getD v3_0.toNat ((0, (0, 0)), (0, 0))).2).1) (((a0.getD v2_0.toNat ((0, (0, 0)), (0, 0))).2).1) (((a0.getD v1_0.toNat ((0, (0, 0)), (0, 0))).2).1))
    (again4 (IntKind.i64.wrap (v4_0 + 1)) v4_1 v4_2 v4_3 v4_4 v4_5 v4_6 v4_7 v4_8 v4_9 v4_10 (((a0.getD v3_0.toNat ((0, (0, 0)), (0, 0))).2).1) (((a0.getD v2_0.toNat ((0, (0, 0)), (0, 0))).2).1) (((a0.getD v1_0.toNat ((0, (0, 0)), (0, 0))).2).1))))))
    (again3 (IntKind.i64.wrap (v3_0 + 1)) v4_1))
    (fun v4_0 v4_1 v4_2 v4_3 v4_4 v4_5 v4_6 v4_7 v4_8 v4_9 v4_10 v4_11 v4_12 v4_13 => again (v4_0, v4_1, v4_2, v4_3, v4_4, v4_5, v4_6, v4_7, v4_8, v4_9, v4_10, v4_11, v4_12, v4_13, ())) v.1 v.2.1 v.2.2.1 v.2.2.2.1 v.2.2.2.2.1 v.2.2.2.2.2.1 v.2.2.2.2.2.2.1 v.2.2.2.2.2.2.2.1 v.2.2.2.2.2.2.2.2.1 v.2.2.2.2.2.2.2.2.2.1 v.2.2.2.2.2.2.2.2.2.2.1 v.2.2.2.2.2.2.2.2.2.2.2.1 v.2.2.2.2.2.2.2.2.2.2.2.2.1 v.2.2.2.2.2.2.2.2.2.2.2.2.2.1) (0, v3_1, ((a0.getD v3_0.toNat ((0, (0, 0)), (0, 0))).1).1, (((a0.getD v3_0.toNat ((0, (0, 0)), (0, 0))).1).2).1, (((a0.getD v3_0.toNat ((0, (0, 0)), (0, 0))).1).2).2, ((a0.getD v2_0.toNat ((0, (0, 0)), (0, 0))).1).1, (((a0.getD v2_0.toNat ((0, (0, 0)), (0, 0))).1).2).1, (((a0.getD v2_0.toNat ((0, (0, 0)), (0, 0))).1).2).2, ((a0.getD v1_0.toNat ((0, (0, 0)), (0, 0))).1).1, (((a0.getD v1_0.toNat ((0, (0, 0)), (0, 0))).1).2).1, (((a0.getD v1_0.toNat ((0, (0, 0)), (0, 0))).1).2).2, 0, 0, 0, ())))
    False)
    False)
    False)
    (again2 (IntKind.i64.wrap (v2_0 + 1)) v3_1))
    (fun v3_0 v3_1 => again (v3_0, v3_1, ())) v.1 v.2.1) (0, v2_1, ()))
    (again1 (IntKind.i64.wrap (v1_0 + 1)) v2_1))
    (fun v2_0 v2_1 => again (v2_0, v2_1, ())) v.1 v.2.1) (0, v1_1, ()))
    (LoopP (V := List ((Int × Int × Int × Int) × Bool) × List (Int × Int × Int × Int) × Unit) (fun again v => (fun (again5 : List ((Int × Int × Int × Int) × Bool) → List (Int × Int × Int × Int) → Prop) (v5_0 : List ((Int × Int × Int × Int) × Bool)) (v5_1 : List (Int × Int × Int × Int)) =>
    nextP (v5_0.length)
    (f122_pre v5_1 ∧
    K (f122 v5_1))
    (fun w3 =>
    br (roomOk ((v5_1.length) + 1) 32)
    (again5 (v5_0.eraseIdx w3) (v5_1 ++ ([(((v5_0.getD w3 ((0, (0, (0, 0))), false)).1).1, ((((v5_0.getD w3 ((0, (0, (0, 0))), false)).1).2).1, ((((v5_0.getD w3 ((0, (0, (0, 0))), false)).1).2).2)))] : List (Int × Int × Int × Int))))
    False))
    (fun v5_0 v5_1 => again (v5_0, v5_1, ())) v.1 v.2.1) (v1_1, ([] : List (Int × Int × Int × Int)), ())))
    (fun v1_0 v1_1 => again (v1_0, v1_1, ())) v.1 v.2.1) (0, ([] : List ((Int × Int × Int × Int) × Bool)), ()))
    True) := by kernel_rfl
theorem f59_t (a0 : List ((Int × Int × Int) × Int × Int)) (hpre : f59_pre a0) (K : (List (Int × Int × Int × Int)) → Prop) (hK : ∀ y : List (Int × Int × Int × Int), y = f59 a0 → K y) : RunF Tryz.prog f59_E f59_A 6 Tryz.f59 f59_e.doms f59_e.cods a0 K := by
  refine ⟨?_⟩
  rw [f59_run a0 K]
  have hle : RdLe a0 := hpre
  rw [br_true_, lenOk_iff]
  intro hl
  -- the walk over the map
  have walk : ∀ m : Kn, m = putAll [] (cands a0) → (LoopP (V := List ((Int × Int × Int × Int) × Bool) × List (Int × Int × Int × Int) × Unit) (fun again v => (fun (again5 : List ((Int × Int × Int × Int) × Bool) → List (Int × Int × Int × Int) → Prop) (v5_0 : List ((Int × Int × Int × Int) × Bool)) (v5_1 : List (Int × Int × Int × Int)) =>
      nextP (v5_0.length) (f122_pre v5_1 ∧ K (f122 v5_1)) (fun w3 => br (roomOk ((v5_1.length) + 1) 32) (again5 (v5_0.eraseIdx w3) (v5_1 ++ ([(v5_0.getD w3 ((0, (0, (0, 0))), false)).1] : List (Int × Int × Int × Int)))) False))
      (fun v5_0 v5_1 => again (v5_0, v5_1, ())) v.1 v.2.1) (m, ([] : List (Int × Int × Int × Int)), ())) := fun m hm => by
    have hk := putAll_len (cands a0) []
    have hkl : m.length ≤ 4096 := by rw [hm]; have := cands_len hle; simp only [List.length_nil] at hk; omega
    refine LoopP.of (fun q : List ((Int × Int × Int × Int) × Bool) × List (Int × Int × Int × Int) × Unit => (q.2.1 ++ q.1.map (·.1)).Perm (m.map (·.1))) (fun q => q.1.length) (fun again q hq hag => ?_) (by simp)
    obtain ⟨left, out, u⟩ := q
    dsimp only at hq ⊢
    have hlen : out.length + left.length = m.length := by have := hq.length_eq; simpa using this
    refine ⟨fun h0 => ?_, fun i hi => ?_⟩
    · have h0 : left = [] := List.length_eq_zero_iff.1 h0
      subst h0
      simp only [List.map_nil, List.append_nil] at hq
      have hmem : ∀ x, x ∈ out ↔ x ∈ cands a0 := fun x => by
        rw [hq.mem_iff, hm, putAll_mem]; simp
      have hnd : out.Nodup := by rw [hq.nodup_iff, hm]; exact putAll_nodup _ _ (by simp)
      have hok : ∀ v ∈ out, VOK v := fun v hv => by
        obtain ⟨h1, h2, h3⟩ := cands_ok hle v ((hmem v).1 hv)
        exact ⟨h1, by omega, ⟨by have := h3.1; omega, by have := h3.2.1; omega, by have := h3.2.2; omega⟩⟩
      refine ⟨⟨by simp only [List.length_nil] at hlen; omega, hnd, hok⟩, hK _ ?_⟩
      show sortW out = vtx a0
      exact asc_eq (sortW_ok fun w hw => (hok w hw).ok) (fun w hw => (cands_ok hle w (vtx_mem.1 hw)).1) (sortW_asc fun w hw => (hok w hw).ok) (vtx_asc hle) fun x => by rw [sortW_mem, vtx_mem, hmem]
    · refine br_must (by rw [roomOk_iff]; omega) (hag _ ?_ ?_)
      · dsimp only
        refine List.Perm.trans ?_ hq
        rw [List.append_assoc]
        refine List.Perm.append_left _ ?_
        rw [getD_lt hi]
        exact (erase_perm hi).map (·.1)
      · simp only [List.length_eraseIdx, if_pos hi]; omega
  -- a step of the loop over the ends
  refine LoopP.up a0.length (fun i (v : Kn × Unit) => v.1 = putAll [] ((List.range i.toNat).flatMap (candC a0))) (fun againC ci vC hc0 hcn hIC hagC => ?_) (by omega) rfl
  obtain ⟨mC, uC⟩ := vC
  dsimp only at hIC ⊢
  obtain ⟨c, rfl⟩ := Int.eq_ofNat_of_zero_le hc0
  refine br_if (fun hc => ?_) fun hc => ?_
  rotate_left
  · have : c = a0.length := by omega
    subst this
    exact walk mC (by rw [hIC]; rfl)
  have hc : c < a0.length := by omega
  rw [wr (n := (c : Int) + 1) (by omega) (by omega)]
  refine LoopP.up c (fun i (v : Kn × Unit) => v.1 = putAll mC ((List.range i.toNat).flatMap (candB a0 c))) (fun againB bi vB hb0 hbn hIB hagB => ?_) (by omega) rfl
  obtain ⟨mB, uB⟩ := vB
  dsimp only at hIB ⊢
  obtain ⟨b, rfl⟩ := Int.eq_ofNat_of_zero_le hb0
  refine br_if (fun hb => ?_) fun hb => ?_
  rotate_left
  · have : b = c := by omega
    subst this
    refine hagC (mB, ()) (by omega) ?_
    dsimp only
    rw [show ((b : Int) + 1).toNat = b + 1 by omega, putAll_snoc, hIB, hIC]
    rfl
  have hb : b < c := by omega
  rw [wr (n := (b : Int) + 1) (by omega) (by omega)]
  refine LoopP.up b (fun i (v : Kn × Unit) => v.1 = putAll mB ((List.range i.toNat).flatMap (candA a0 c b))) (fun againA ai vA ha0 han hIA hagA => ?_) (by omega) rfl
  obtain ⟨mA, uA⟩ := vA
  dsimp only at hIA ⊢
  obtain ⟨a, rfl⟩ := Int.eq_ofNat_of_zero_le ha0
  refine br_if (fun ha => ?_) fun ha => ?_
  rotate_left
  · have : a = b := by omega
    subst this
    refine hagB (mA, ()) (by omega) ?_
    dsimp only
    rw [show ((a : Int) + 1).toNat = a + 1 by omega, putAll_snoc, hIA, hIB]
    rfl
  have ha : a < b := by omega
  rw [wr (n := (a : Int) + 1) (by omega) (by omega)]
  simp only [Int.toNat_natCast] at *
  refine br_must (inb (by omega) (by omega)) (br_must (inb (by omega) (by omega)) (br_must (inb (by omega) (by omega)) ?_))
  have hs : ∀ e, Sml (rows3 a0 a b c) (ends3 a0 a b c e) := fun e => hle.sml (by omega) (by omega) hc e
  have hnx : ∀ m : Kn, m = putAll mA (candA a0 c b a) → againA ((a : Int) + 1, m, ()) := fun m hm => by
    refine hagA (m, ()) (by omega) ?_
    dsimp only
    rw [show ((a : Int) + 1).toNat = a + 1 by omega, putAll_snoc, hm, hIA]
  show br (w64 (det3 (rows3 a0 a b c)) == 0) _ _
  refine br_two (fun hd => hnx _ ?_) fun hd => ?_
  · have hd := beq_iff_eq.1 hd
    rw [candA, if_pos hd]; rfl
  have hd := beq_eq_false_iff_ne.1 hd
  have hdet : det3 (rows3 a0 a b c) ≠ 0 := by rwa [(hs 0).w] at hd
  have hcA : candA a0 c b a = (List.range 8).flatMap (candE a0 a b c) := by rw [candA, if_neg hd]
  have hpre1 : ∀ e, f108_pre ((rows3 a0 a b c, ends3 a0 a b c e), 1) := fun e => by
    have hs := hs e
    obtain ⟨k1, k2, k3⟩ := hs.cs
    unfold f108_pre
    simp only [hs.solP, hs.solD]
    exact ⟨fit_le hs.det (by omega), ⟨fit_le k1 (by omega), fit_le k2 (by omega), fit_le k3 (by omega)⟩, hdet⟩
  refine LoopP.of (fun q => ∃ (e : Nat) (x y z : Int), e ≤ 8 ∧ q = ((e : Int), putAll mA ((List.range e).flatMap (candE a0 a b c)), (a0.getD a rd0).1.1, (a0.getD a rd0).1.2.1, (a0.getD a rd0).1.2.2, (a0.getD b rd0).1.1, (a0.getD b rd0).1.2.1, (a0.getD b rd0).1.2.2, (a0.getD c rd0).1.1, (a0.getD c rd0).1.2.1, (a0.getD c rd0).1.2.2, x, y, z, ())) (fun q => (8 - q.1).toNat) (fun again4 q hq hag4 => ?_) ⟨0, 0, 0, 0, by omega, rfl⟩
  obtain ⟨e, x0, y0, z0, he, rfl⟩ := hq
  dsimp only
  refine br_if (fun he8 => ?_) fun he8 => hnx _ ?_
  rotate_left
  · have : e = 8 := by omega
    rw [hcA, this]
  have he8 : e < 8 := by omega
  rw [bit0 ⟨e, he8⟩, bit1 ⟨e, he8⟩, bit2 ⟨e, he8⟩, wr (n := (e : Int) + 1) (by omega) (by omega)]
  dsimp only
  have leaf : ∀ x y z : Int, ((x, y, z) : V3) = ends3 a0 a b c e → f108_pre ((rows3 a0 a b c, (x, y, z)), 1) ∧ br (f96 (a0, f108 ((rows3 a0 a b c, (x, y, z)), 1)))
      (again4 ((e : Int) + 1, mput (.pair (.int .i64) (.pair (.int .i64) (.pair (.int .i64) (.int .i64)))) .bool (putAll mA ((List.range e).flatMap (candE a0 a b c))) (f108 ((rows3 a0 a b c, (x, y, z)), 1)) true, (a0.getD a rd0).1.1, (a0.getD a rd0).1.2.1, (a0.getD a rd0).1.2.2, (a0.getD b rd0).1.1, (a0.getD b rd0).1.2.1, (a0.getD b rd0).1.2.2, (a0.getD c rd0).1.1, (a0.getD c rd0).1.2.1, (a0.getD c rd0).1.2.2, x, y, z, ()))
      (again4 ((e : Int) + 1, putAll mA ((List.range e).flatMap (candE a0 a b c)), (a0.getD a rd0).1.1, (a0.getD a rd0).1.2.1, (a0.getD a rd0).1.2.2, (a0.getD b rd0).1.1, (a0.getD b rd0).1.2.1, (a0.getD b rd0).1.2.2, (a0.getD c rd0).1.1, (a0.getD c rd0).1.2.1, (a0.getD c rd0).1.2.2, x, y, z, ())) := fun x y z hxyz => by
    rw [hxyz]
    refine ⟨hpre1 e, br_two (fun hg => hag4 _ ⟨e + 1, x, y, z, by omega, ?_⟩ (by dsimp only; omega)) fun hg => hag4 _ ⟨e + 1, x, y, z, by omega, ?_⟩ (by dsimp only; omega)⟩
    · have hg : a0.all (agR · (sol1 a0 a b c e)) = true := hg
      rw [putAll_snoc, candE, if_pos hg]
      rfl
    · have hg : a0.all (agR · (sol1 a0 a b c e)) = false := hg
      rw [putAll_snoc, candE, if_neg (by rw [hg]; simp)]
      rfl
  refine br_if (fun h0 => br_if (fun h1 => br_if (fun h2 => leaf _ _ _ ?_) fun h2 => leaf _ _ _ ?_) fun h1 => br_if (fun h2 => leaf _ _ _ ?_) fun h2 => leaf _ _ _ ?_) fun h0 => br_if (fun h1 => br_if (fun h2 => leaf _ _ _ ?_) fun h2 => leaf _ _ _ ?_) fun h1 => br_if (fun h2 => leaf _ _ _ ?_) fun h2 => leaf _ _ _ ?_
  all_goals simp only [ends3, endR, h0, h1, h2, if_true, if_false]
  all_goals rfl
theorem f59_fn : f59_e.fn = f59 := rfl
theorem f59_ok : EntryOK Tryz.prog 59 f59_e := by
  refine entryF progOK (EnvOK.cons f96_ok (EnvOK.cons f108_ok (EnvOK.cons f109_ok (EnvOK.cons f122_ok (EnvOK.nil))))) (A := f59_A) (d := 6) Tryz.func59 rfl rfl rfl rfl (fun h => by cases h) fun x hpre => ?_
  exact f59_t x hpre _ fun _ h => h.trans (congrFun f59_fn.symm _)
end Go.Proofs.YtglijnhkdnhofaaGreat
end
