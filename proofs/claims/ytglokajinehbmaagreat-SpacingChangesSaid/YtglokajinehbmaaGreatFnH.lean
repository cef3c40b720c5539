/- What functions of the program compute, each proved once, part 8. -/
import Derived.Test.YtglokajinehbmaaGreatFnG
import Derived.Test.YtglokajinehbmaaGreatPiD
import Derived.Test.YtglokajinehbmaaGreatFnA
import Derived.Test.YtglokajinehbmaaGreatFnB
import Derived.Test.YtglokajinehbmaaGreatFnF

section
namespace Go.Proofs.YtglokajinehbmaaGreat
set_option linter.unusedVariables false
set_option linter.unusedSimpArgs false
open Go Go.Pi
/-! ### orders -/
theorem outAt_perm {l : List Int} {i : Nat} (h : i < l.length) : (l.getD i 0 :: outAt l i).Perm l := by
  have e := split_at (d := (0 : Int)) h
  have : (outAt l i) = l.take i ++ l.drop (i + 1) := rfl
  rw [this]
  conv => rhs; rw [e]
  exact List.perm_middle.symm
theorem perms_perm : ∀ (n : Nat) (l : List Int), l.length ≤ n → ∀ o ∈ perms n l, o.Perm l
  | 0, l, h, o, ho => by
    have : l = [] := List.length_eq_zero_iff.1 (by omega)
    subst this
    simp only [perms, List.mem_singleton] at ho
    rw [ho]
  | n + 1, l, h, o, ho => by
    simp only [perms] at ho
    split at ho
    · rename_i h0
      have : l = [] := List.length_eq_zero_iff.1 h0
      subst this
      simp only [List.mem_singleton] at ho
      rw [ho]
    · obtain ⟨i, hi, ho⟩ := List.mem_flatMap.1 ho
      have hi := List.mem_range.1 hi
      obtain ⟨r, hr, rfl⟩ := List.mem_map.1 ho
      exact ((perms_perm n _ (by rw [outAt_len hi]; omega) r hr).cons _).trans (outAt_perm hi)
theorem perms_all : ∀ (n : Nat) (l o : List Int), l.length ≤ n → o.Perm l → o ∈ perms n l
  | 0, l, o, h, ho => by
    have : l = [] := List.length_eq_zero_iff.1 (by omega)
    subst this
    rw [List.perm_nil.1 ho]
    exact List.mem_singleton.2 rfl
  | n + 1, l, o, h, ho => by
    simp only [perms]
    split
    · rename_i h0
      have : l = [] := List.length_eq_zero_iff.1 h0
      subst this
      rw [List.perm_nil.1 ho]
      exact List.mem_singleton.2 rfl
    · rename_i h0
      cases o with
      | nil => exact absurd (List.nil_perm.1 ho) (fun e => h0 (by rw [e]; rfl))
      | cons a r =>
        have ha : a ∈ l := ho.subset (.head _)
        obtain ⟨i, hi, e⟩ := List.getElem_of_mem ha
        have hg : l.getD i 0 = a := by rw [getD_lt hi, e]
        refine List.mem_flatMap.2 ⟨i, List.mem_range.2 hi, List.mem_map.2 ⟨r, ?_, by rw [hg]⟩⟩
        refine perms_all n _ r (by rw [outAt_len hi]; omega) ?_
        have h2 : (a :: r).Perm (a :: outAt l i) := ho.trans (by rw [← hg]; exact (outAt_perm hi).symm)
        exact List.Perm.cons_inv h2
/-! ### the arrivals that are left -/
theorem rest_mem {p : Prob} {fixed : List (Int × Int)} {a : Int} : a ∈ restF p fixed ↔ inA p a ∧ hasS fixed a = false := by
  constructor
  · intro h
    refine ⟨leftF_in p fixed a h, ?_⟩
    obtain ⟨j, hj, rfl⟩ := List.mem_map.1 h
    have := (List.mem_filter.1 hj).2
    simpa using this
  · rintro ⟨⟨h1, h2⟩, h3⟩
    refine List.mem_map.2 ⟨a.toNat, List.mem_filter.2 ⟨List.mem_range.2 (by omega), ?_⟩, by omega⟩
    rw [show ((a.toNat : Nat) : Int) = a by omega, h3]
    rfl
theorem nodup_cast {l : List Nat} (h : l.Nodup) : (l.map fun (j : Nat) => (j : Int)).Nodup :=
  List.Pairwise.map _ (fun a b hab e => hab (by omega)) h
theorem rest_nodup (p : Prob) (fixed : List (Int × Int)) : (restF p fixed).Nodup := by
  unfold restF leftF
  exact nodup_cast (List.Pairwise.filter _ List.nodup_range)
/-! ### slots that are placed one behind the other -/
theorem contL_at {p : Prob} : ∀ (o : List Int) (out l : List (Int × Int)), contL p out o = some l → l.take out.length = out ∧ ∀ j, j < o.length →
    l.getD (out.length + j) (0, 0) = (o.getD j 0, soonF p (l.take (out.length + j)) (o.getD j 0)) ∧ soonF p (l.take (out.length + j)) (o.getD j 0) ≤ (p.2.1.getD (o.getD j 0).toNat arrD).2.2.2.1
  | [], out, l, e => by
    simp only [contL, Option.some.injEq] at e
    subst e
    exact ⟨List.take_length, fun j hj => by simp at hj⟩
  | a :: r, out, l, e => by
    simp only [contL] at e
    split at e
    · cases e
    · rename_i ht
      obtain ⟨h1, h2⟩ := contL_at r _ l e
      have hlen : (out ++ [(a, soonF p out a)]).length = out.length + 1 := by simp
      rw [hlen] at h1 h2
      have ht0 : l.take out.length = out := by
        have := congrArg (List.take out.length) h1
        rw [List.take_take, List.take_append_of_le_length (Nat.le_refl _), List.take_length] at this
        rwa [show min out.length (out.length + 1) = out.length by omega] at this
      refine ⟨ht0, fun j hj => ?_⟩
      cases j with
      | zero =>
        simp only [Nat.add_zero, List.getD_cons_zero]
        rw [ht0]
        refine ⟨?_, by omega⟩
        have hlt : out.length < l.length := by
          have := congrArg List.length h1
          rw [List.length_take, hlen] at this
          omega
        have : (l.take (out.length + 1)).getD out.length (0, 0) = (a, soonF p out a) := by
          rw [h1]
          simp [List.getD_eq_getElem?_getD]
        rw [getD_lt (by rw [List.length_take]; omega), List.getElem_take] at this
        rw [getD_lt hlt]
        exact this
      | succ j =>
        have := h2 j (by simpa using hj)
        rw [show out.length + 1 + j = out.length + (j + 1) by omega] at this
        exact this
theorem hasS_false {l : List (Int × Int)} {a : Int} : hasS l a = false ↔ ∀ s ∈ l, s.1 ≠ a := by
  unfold hasS
  rw [List.any_eq_false]
  constructor
  · intro h s hs e
    exact h s hs (by simpa using e)
  · intro h s hs e
    exact h s hs (by simpa using e)
theorem slot1_ok {p : Prob} {b : List (Int × Int)} {s : Int × Int} : slot1 p b s = 0 ↔ inA p s.1 ∧ hasS b s.1 = false := by
  refine ⟨slot1_zero, fun ⟨⟨h1, h2⟩, h3⟩ => ?_⟩
  rw [slot1, if_neg (fun hh => hh ⟨h1, by omega⟩), if_neg (by rw [h3]; simp)]
theorem slE_ok {p : Prob} {l : List (Int × Int)} {i : Nat} : slE p l i = 0 ↔ (inA p (l.getD i (0, 0)).1 ∧ hasS (l.take i) (l.getD i (0, 0)).1 = false) ∧
    ((p.2.1.getD (l.getD i (0, 0)).1.toNat arrD).2.2.1 ≤ (l.getD i (0, 0)).2 ∧ (l.getD i (0, 0)).2 ≤ (p.2.1.getD (l.getD i (0, 0)).1.toNat arrD).2.2.2.1) ∧ soonF p (l.take i) (l.getD i (0, 0)).1 ≤ (l.getD i (0, 0)).2 := by
  unfold slE
  constructor
  · intro h
    split at h
    · rename_i h1; exact absurd h h1
    · rename_i h1
      split at h
      · simp at h
      · rename_i h2
        split at h
        · simp at h
        · rename_i h3
          exact ⟨slot1_ok.1 (Classical.byContradiction h1), Classical.byContradiction h2, by omega⟩
  · rintro ⟨h1, h2, h3⟩
    rw [if_neg (fun hh => hh (slot1_ok.2 h1)), if_neg (fun hh => hh h2), if_neg (by omega)]
theorem slots_ok {p : Prob} {l : List (Int × Int)} : slotsErr p l = 0 ↔ ∀ i, i < l.length → slE p l i = 0 :=
  ⟨fun h i hi => eachE_zero h i hi, fun h => by rw [slotsErr, eachE_none h]⟩
/-- Slots that keep the rules, and all of whose beginnings do. -/
theorem slots_take {p : Prob} {l : List (Int × Int)} (h : slotsErr p l = 0) (n : Nat) : slotsErr p (l.take n) = 0 := by
  rw [slots_ok] at h ⊢
  intro i hi
  rw [List.length_take] at hi
  have := h i (by omega)
  rw [slE_ok] at this ⊢
  have e1 : (l.take n).getD i (0, 0) = l.getD i (0, 0) := by rw [getD_lt (by rw [List.length_take]; omega), List.getElem_take, getD_lt (by omega)]
  have e2 : (l.take n).take i = l.take i := by rw [List.take_take, show min i n = i by omega]
  rw [e1, e2]
  exact this
/-- What is placed behind slots that keep the rules keeps them. -/
theorem cont_slots {p : Prob} {fixed S : List (Int × Int)} {o : List Int} (hfix : slotsErr p fixed = 0) (ho : o.Nodup) (hin : ∀ a ∈ o, inA p a ∧ hasS fixed a = false) (e : contL p fixed o = some S) (hlen : S.length = fixed.length + o.length) :
    slotsErr p S = 0 ∧ S.take fixed.length = fixed ∧ S.map (·.1) = fixed.map (·.1) ++ o := by
  obtain ⟨h1, h2⟩ := contL_at o fixed S e
  have harr : S.map (·.1) = fixed.map (·.1) ++ o := by
    apply List.ext_getElem
    · simp [hlen]
    · intro i hi1 hi2
      simp only [List.length_map] at hi1
      rw [List.getElem_map]
      rcases Nat.lt_or_ge i fixed.length with hi | hi
      · rw [List.getElem_append_left (by simpa using hi), List.getElem_map]
        have : S[i] = fixed[i] := by
          have := List.getElem_take (xs := S) (j := fixed.length) (i := i) (h := by rw [List.length_take]; omega)
          rw [← this]
          congr 1
        rw [this]
      · rw [List.getElem_append_right (by simpa using hi)]
        obtain ⟨g1, _⟩ := h2 (i - fixed.length) (by omega)
        rw [show fixed.length + (i - fixed.length) = i by omega, getD_lt hi1] at g1
        rw [g1]
        simp only [List.length_map]
        rw [getD_lt]
  refine ⟨?_, h1, harr⟩
  rw [slots_ok] at hfix ⊢
  intro i hi
  rcases Nat.lt_or_ge i fixed.length with hlt | hge
  · have := hfix i hlt
    rw [slE_ok] at this ⊢
    have e1 : S.getD i (0, 0) = fixed.getD i (0, 0) := by
      rw [getD_lt hi, getD_lt hlt]
      have := List.getElem_take (xs := S) (j := fixed.length) (i := i) (h := by rw [List.length_take]; omega)
      rw [← this]
      congr 1
    have e2 : S.take i = fixed.take i := by
      conv => rhs; rw [← h1]
      rw [List.take_take, show min i fixed.length = i by omega]
    rw [e1, e2]
    exact this
  · obtain ⟨g1, g2⟩ := h2 (i - fixed.length) (by omega)
    rw [show fixed.length + (i - fixed.length) = i by omega] at g1 g2
    have hj : i - fixed.length < o.length := by omega
    obtain ⟨b1, b2⟩ := hin (o.getD (i - fixed.length) 0) (by rw [getD_lt hj]; exact List.getElem_mem _)
    have hge2 := (soonF_le (p := p) (a := o.getD (i - fixed.length) 0) (t := soonF p (S.take i) (o.getD (i - fixed.length) 0)) (l := S.take i)).1 (Int.le_refl _)
    rw [slE_ok, g1]
    refine ⟨⟨b1, hasS_false.2 fun s hs he => ?_⟩, ⟨hge2.1, g2⟩, Int.le_refl _⟩
    obtain ⟨j, hj2, rfl⟩ := List.getElem_of_mem hs
    rw [List.length_take] at hj2
    rw [List.getElem_take] at he
    simp only at he
    have hm : (S.map (·.1))[j]'(by simp; omega) = (fixed.map (·.1) ++ o)[j]'(by rw [← harr]; simp; omega) := by
      congr 1
    rw [List.getElem_map, he] at hm
    rcases Nat.lt_or_ge j fixed.length with hjf | hjf
    · rw [List.getElem_append_left (by simpa using hjf), List.getElem_map] at hm
      exact hasS_false.1 b2 _ (List.getElem_mem hjf) hm.symm
    · rw [List.getElem_append_right (by simpa using hjf)] at hm
      simp only [List.length_map] at hm
      rw [getD_lt hj] at hm
      have := (List.getElem_inj ho).1 hm
      omega
/-! ### the best of them -/
theorem bestStep_spec (p : Prob) (fixed : List (Int × Int)) : ∀ (L : List (List Int)) (s : List (Int × Int) × Int × Bool),
    let r := L.foldl (bestStep p fixed) s
    (r.2.2 = true ↔ s.2.2 = true ∨ ∃ o ∈ L, (contF p fixed o).2 = true) ∧ (r = s ∨ ∃ o ∈ L, contF p fixed o = (r.1, true) ∧ r.2.1 = costF p r.1) ∧
    (s.2.2 = true → r.2.1 ≤ s.2.1) ∧ ∀ o ∈ L, (contF p fixed o).2 = true → r.2.1 ≤ costF p (contF p fixed o).1
  | [], s => ⟨by simp, .inl rfl, fun _ => Int.le_refl _, fun o ho => by cases ho⟩
  | a :: L, s => by
    obtain ⟨h1, h2, h3, h4⟩ := bestStep_spec p fixed L (bestStep p fixed s a)
    simp only [List.foldl_cons]
    by_cases ha : (contF p fixed a).2 = true
    · have hea : contF p fixed a = ((contF p fixed a).1, true) := Prod.ext rfl ha
      by_cases hc : s.2.2 = false ∨ costF p (contF p fixed a).1 < s.2.1
      · have e : bestStep p fixed s a = ((contF p fixed a).1, costF p (contF p fixed a).1, true) := by rw [bestStep, if_pos ha, if_pos hc]
        rw [e] at h1 h2 h3 h4 ⊢
        refine ⟨?_, ?_, ?_, ?_⟩
        · rw [h1]
          exact ⟨fun _ => .inr ⟨a, .head _, ha⟩, fun _ => .inl rfl⟩
        · rcases h2 with h2 | ⟨o, ho, h2⟩
          · rw [h2]
            exact .inr ⟨a, .head _, hea, rfl⟩
          · exact .inr ⟨o, .tail _ ho, h2⟩
        · intro hs
          have := h3 rfl
          simp only at this
          rcases hc with hc | hc
          · rw [hs] at hc; cases hc
          · omega
        · intro o ho hok
          rcases List.mem_cons.1 ho with rfl | ho
          · exact h3 rfl
          · exact h4 o ho hok
      · have e : bestStep p fixed s a = s := by rw [bestStep, if_pos ha, if_neg hc]
        rw [e] at h1 h2 h3 h4 ⊢
        have hs : s.2.2 = true := by
          cases hh : s.2.2 with
          | true => rfl
          | false => exact absurd (.inl hh) hc
        refine ⟨by rw [h1]; exact ⟨fun _ => .inl hs, fun _ => .inl hs⟩, ?_, h3, ?_⟩
        · rcases h2 with h2 | ⟨o, ho, h2⟩
          · exact .inl h2
          · exact .inr ⟨o, .tail _ ho, h2⟩
        · intro o ho hok
          rcases List.mem_cons.1 ho with rfl | ho
          · have := h3 hs
            have : ¬ costF p (contF p fixed o).1 < s.2.1 := fun hh => hc (.inr hh)
            omega
          · exact h4 o ho hok
    · have e : bestStep p fixed s a = s := by rw [bestStep, if_neg ha]
      rw [e] at h1 h2 h3 h4 ⊢
      refine ⟨?_, ?_, h3, ?_⟩
      · rw [h1]
        constructor
        · rintro (h | ⟨o, ho, h⟩)
          · exact .inl h
          · exact .inr ⟨o, .tail _ ho, h⟩
        · rintro (h | ⟨o, ho, h⟩)
          · exact .inl h
          · rcases List.mem_cons.1 ho with rfl | ho
            · exact absurd h ha
            · exact .inr ⟨o, ho, h⟩
      · rcases h2 with h2 | ⟨o, ho, h2⟩
        · exact .inl h2
        · exact .inr ⟨o, .tail _ ho, h2⟩
      · intro o ho hok
        rcases List.mem_cons.1 ho with rfl | ho
        · exact absurd hok ha
        · exact h4 o ho hok
theorem rest_len {p : Prob} (hv : ProbV p) (fixed : List (Int × Int)) : (restF p fixed).length ≤ 6 := by
  have := leftF_len p fixed p.2.1.length
  have := hv.six
  unfold restF
  omega
theorem best_none {p : Prob} {fixed : List (Int × Int)} (h : (bestF p fixed).2.2 = false) : bestF p fixed = ([], 0, false) ∧ ∀ o ∈ perms 8 (restF p fixed), (contF p fixed o).2 = false := by
  obtain ⟨h1, h2, _, h4⟩ := bestStep_spec p fixed (perms 8 (restF p fixed)) ([], 0, false)
  have hno : ∀ o ∈ perms 8 (restF p fixed), (contF p fixed o).2 = false := fun o ho => by
    cases hc : (contF p fixed o).2 with
    | false => rfl
    | true =>
      have := h1.2 (.inr ⟨o, ho, hc⟩)
      have e : bestF p fixed = (perms 8 (restF p fixed)).foldl (bestStep p fixed) ([], 0, false) := rfl
      rw [← e, h] at this
      cases this
  refine ⟨?_, hno⟩
  rcases h2 with h2 | ⟨o, ho, h2, _⟩
  · exact h2
  · have := hno o ho
    rw [h2] at this
    cases this
/-- The best plan is one of those that can be placed, and none of them costs less. -/
theorem best_some {p : Prob} {fixed : List (Int × Int)} (h : (bestF p fixed).2.2 = true) : (∃ o ∈ perms 8 (restF p fixed), contF p fixed o = ((bestF p fixed).1, true)) ∧ (bestF p fixed).2.1 = costF p (bestF p fixed).1 ∧
    ∀ o ∈ perms 8 (restF p fixed), (contF p fixed o).2 = true → (bestF p fixed).2.1 ≤ costF p (contF p fixed o).1 := by
  obtain ⟨_, h2, _, h4⟩ := bestStep_spec p fixed (perms 8 (restF p fixed)) ([], 0, false)
  have e : bestF p fixed = (perms 8 (restF p fixed)).foldl (bestStep p fixed) ([], 0, false) := rfl
  rw [← e] at h2 h4
  rcases h2 with h2 | ⟨o, ho, h2, h3⟩
  · rw [h2] at h; cases h
  · exact ⟨⟨o, ho, h2⟩, h3, h4⟩
theorem best_found {p : Prob} {fixed : List (Int × Int)} {o : List Int} (ho : o ∈ perms 8 (restF p fixed)) (h : (contF p fixed o).2 = true) : (bestF p fixed).2.2 = true := by
  cases hb : (bestF p fixed).2.2 with
  | true => rfl
  | false =>
    have := (best_none hb).2 o ho
    rw [h] at this
    cases this
/-- The arrivals of slots that keep the rules. -/
theorem slots_nodup {p : Prob} {l : List (Int × Int)} (h : slotsErr p l = 0) : (l.map (·.1)).Nodup ∧ ∀ a ∈ l.map (·.1), inA p a := by
  rw [slots_ok] at h
  constructor
  · refine List.pairwise_iff_getElem.2 fun i j hi hj hij e => ?_
    simp only [List.length_map] at hi hj
    rw [List.getElem_map, List.getElem_map] at e
    have h1 := (slE_ok.1 (h j hj)).1.2
    rw [getD_lt hj] at h1
    exact hasS_false.1 h1 l[i] (List.mem_take_iff_getElem.2 ⟨i, by omega, rfl⟩) e
  · intro a ha
    obtain ⟨s, hs, rfl⟩ := List.mem_map.1 ha
    obtain ⟨i, hi, rfl⟩ := List.getElem_of_mem hs
    have := (slE_ok.1 (h i hi)).1.1
    rwa [getD_lt hi] at this
theorem hasS_iff {l : List (Int × Int)} {a : Int} : hasS l a = true ↔ a ∈ l.map (·.1) := by
  unfold hasS
  simp only [List.any_eq_true, List.mem_map, beq_iff_eq]
/-- How many arrivals are left. -/
theorem rest_count {p : Prob} {fixed : List (Int × Int)} (h : slotsErr p fixed = 0) : fixed.length + (restF p fixed).length = p.2.1.length := by
  obtain ⟨h1, h2⟩ := slots_nodup h
  have hall : (fixed.map (·.1) ++ restF p fixed).Perm ((List.range p.2.1.length).map fun (j : Nat) => (j : Int)) := by
    refine (List.perm_ext_iff_of_nodup ?_ ?_).2 fun a => ?_
    · refine List.nodup_append.2 ⟨h1, rest_nodup p fixed, fun a ha b hb e => ?_⟩
      subst e
      have := (rest_mem.1 hb).2
      rw [hasS_iff.2 ha] at this
      cases this
    · exact nodup_cast List.nodup_range
    · constructor
      · intro ha
        have : inA p a := by
          rcases List.mem_append.1 ha with ha | ha
          · exact h2 a ha
          · exact (rest_mem.1 ha).1
        obtain ⟨g1, g2⟩ := this
        exact List.mem_map.2 ⟨a.toNat, List.mem_range.2 (by omega), by omega⟩
      · intro ha
        obtain ⟨j, hj, rfl⟩ := List.mem_map.1 ha
        have hj := List.mem_range.1 hj
        cases hh : hasS fixed (j : Int) with
        | true => exact List.mem_append_left _ (hasS_iff.1 hh)
        | false => exact List.mem_append_right _ (rest_mem.2 ⟨⟨by omega, by omega⟩, hh⟩)
  have := hall.length_eq
  simpa using this
/-- The best plan after fixed slots keeps the rules, begins with them, and is whole. -/
theorem best_slots {p : Prob} {fixed : List (Int × Int)} (hf : FixV p fixed) (hs : slotsErr p fixed = 0) (h : (bestF p fixed).2.2 = true) :
    slotsErr p (bestF p fixed).1 = 0 ∧ (bestF p fixed).1.take fixed.length = fixed ∧ (bestF p fixed).1.length = p.2.1.length := by
  obtain ⟨⟨o, ho, e⟩, _, _⟩ := best_some h
  have hv := hf.ok.v
  have h6 := rest_len hv fixed
  have hp := perms_perm 8 _ (by omega) o ho
  have hn : o.Nodup := hp.nodup_iff.2 (rest_nodup p fixed)
  have hin : ∀ a ∈ o, inA p a ∧ hasS fixed a = false := fun a ha => rest_mem.1 (hp.subset ha)
  have hc := rest_count hs
  have hl := hp.length_eq
  have ec : contL p fixed o = some (bestF p fixed).1 := by
    unfold contF at e
    cases h' : contL p fixed o with
    | none => rw [h'] at e; exact absurd (congrArg Prod.snd e) (by simp)
    | some l => rw [h'] at e; exact congrArg some (congrArg Prod.fst e)
  obtain ⟨_, v2⟩ := contL_ok hv o fixed hf.slots (fun a ha => (hin a ha).1) _ ec
  obtain ⟨s1, s2, _⟩ := cont_slots hs hn hin ec v2
  exact ⟨s1, s2, by omega⟩
end Go.Proofs.YtglokajinehbmaaGreat
end

section
namespace Go.Proofs.YtglokajinehbmaaGreat
set_option linter.unusedVariables false
set_option linter.unusedSimpArgs false
open Go Go.Pi
/-- The same arrivals, none of them later. -/
structure Soon (S T : List (Int × Int)) : Prop where
  len : S.length = T.length
  at_ : ∀ i, i < T.length → (S.getD i (0, 0)).1 = (T.getD i (0, 0)).1 ∧ (S.getD i (0, 0)).2 ≤ (T.getD i (0, 0)).2
theorem Soon.refl (S : List (Int × Int)) : Soon S S := ⟨rfl, fun i hi => ⟨rfl, Int.le_refl _⟩⟩
theorem take_getD {l : List (Int × Int)} {n i : Nat} (hi : i < n) (hl : i < l.length) : (l.take n).getD i (0, 0) = l.getD i (0, 0) := by
  rw [getD_lt (by rw [List.length_take]; omega), List.getElem_take, getD_lt hl]
theorem slotV_of {p : Prob} (hv : ProbV p) {l : List (Int × Int)} (h : slotsErr p l = 0) : ∀ s ∈ l, slotV p s := fun s hs => by
  have := slots_valid hv (Nat.le_refl l.length) (fun j hj => eachE_zero h j hj) s
  rw [List.take_length] at this
  exact this hs
theorem FixV.of {p : Prob} (hok : okP p) {l : List (Int × Int)} (h : slotsErr p l = 0) (hl : l.length ≤ 900) : FixV p l := ⟨hok, slotV_of hok.v h, hl⟩
/-- Arrivals placed one behind the other come no later than in slots that keep the rules. -/
theorem cont_soon {p : Prob} {T : List (Int × Int)} (hT : slotsErr p T = 0) : ∀ (d : Nat) (out : List (Int × Int)), out.length + d = T.length → Soon out (T.take out.length) →
    ∃ S, contL p out ((T.drop out.length).map (·.1)) = some S ∧ Soon S T
  | 0, out, hd, h => by
    have hl : out.length = T.length := by omega
    refine ⟨out, ?_, ?_⟩
    · rw [hl, List.drop_length]
      rfl
    · rw [hl, List.take_length] at h
      exact h
  | d + 1, out, hd, h => by
    have hlt : out.length < T.length := by omega
    have e : T.drop out.length = T.getD out.length (0, 0) :: T.drop (out.length + 1) := by
      rw [getD_lt hlt]
      exact List.drop_eq_getElem_cons hlt
    have hk := slE_ok.1 (slots_ok.1 hT out.length hlt)
    have h3 := soonF_le.1 hk.2.2
    have hle : soonF p out (T.getD out.length (0, 0)).1 ≤ (T.getD out.length (0, 0)).2 := by
      refine soonF_le.2 ⟨h3.1, fun s hs => ?_⟩
      obtain ⟨j, hj, rfl⟩ := List.getElem_of_mem hs
      obtain ⟨g1, g2⟩ := h.at_ j (by rw [List.length_take]; omega)
      rw [take_getD hj (by omega), getD_lt hj] at g1 g2
      have := h3.2 (T.getD j (0, 0)) (by rw [getD_lt (by omega)]; exact List.mem_take_iff_getElem.2 ⟨j, by omega, rfl⟩)
      rw [g1]
      omega
    have hlen : (out ++ [((T.getD out.length (0, 0)).1, soonF p out (T.getD out.length (0, 0)).1)]).length = out.length + 1 := by simp
    obtain ⟨S, hS, hs⟩ := cont_soon hT d (out ++ [((T.getD out.length (0, 0)).1, soonF p out (T.getD out.length (0, 0)).1)]) (by omega) (by
      rw [hlen]
      refine ⟨by rw [hlen, List.length_take]; omega, fun i hi => ?_⟩
      rw [List.length_take] at hi
      rw [take_getD (by omega) (by omega)]
      rcases Nat.lt_or_ge i out.length with h1 | h1
      · obtain ⟨g1, g2⟩ := h.at_ i (by rw [List.length_take]; omega)
        rw [take_getD h1 (by omega)] at g1 g2
        rw [getD_lt (by omega), List.getElem_append_left h1, ← getD_lt (d := (0, 0)) h1]
        exact ⟨g1, g2⟩
      · have : i = out.length := by omega
        subst this
        rw [getD_lt (by omega), List.getElem_append_right (by omega)]
        simpa using hle)
    refine ⟨S, ?_, hs⟩
    rw [hlen] at hS
    rw [e, List.map_cons, contL, if_neg (by have := hk.2.1; omega)]
    exact hS
theorem cost_soon {p : Prob} (hv : ProbV p) {S T : List (Int × Int)} (hT : ∀ s ∈ T, slotV p s) (h : Soon S T) : ∀ i, i ≤ T.length → costF p (S.take i) ≤ costF p (T.take i)
  | 0, _ => by simp [costF]
  | i + 1, hi => by
    have ih := cost_soon hv hT h i (by omega)
    have hl := h.len
    rw [costF_take p S (by omega), costF_take p T (by omega)]
    obtain ⟨g1, g2⟩ := h.at_ i (by omega)
    rw [g1]
    have ht := hT (T.getD i (0, 0)) (by rw [getD_lt (by omega)]; exact List.getElem_mem _)
    obtain ⟨⟨s1, s2⟩, _⟩ := ht
    obtain ⟨⟨_, a2, _⟩, _⟩ := hv.arr (T.getD i (0, 0)).1.toNat (by omega)
    have hc : 0 ≤ (p.2.1.getD (T.getD i (0, 0)).1.toNat arrD).2.2.2.2 := a2.2.2.2.1
    have := Int.mul_le_mul_of_nonneg_left (show (S.getD i (0, 0)).2 - (p.2.1.getD (T.getD i (0, 0)).1.toNat arrD).2.2.1 ≤ (T.getD i (0, 0)).2 - (p.2.1.getD (T.getD i (0, 0)).1.toNat arrD).2.2.1 by omega) hc
    omega
theorem cost_le {p : Prob} (hv : ProbV p) {S T : List (Int × Int)} (hT : ∀ s ∈ T, slotV p s) (h : Soon S T) : costF p S ≤ costF p T := by
  have := cost_soon hv hT h T.length (Nat.le_refl _)
  rwa [List.take_length, List.take_of_length_le (by have := h.len; omega)] at this
theorem sub_all : ∀ {l m : List Int}, l.Nodup → (∀ x ∈ l, x ∈ m) → m.length ≤ l.length → ∀ x ∈ m, x ∈ l
  | [], m, _, _, hl, x, hx => by
    have : m = [] := List.length_eq_zero_iff.1 (by simpa using hl)
    subst this
    exact hx
  | a :: r, m, hn, hs, hl, x, hx => by
    obtain ⟨h1, h2⟩ := List.nodup_cons.1 hn
    obtain ⟨m1, m2, rfl⟩ := List.append_of_mem (hs a (.head _))
    have hr : ∀ y ∈ r, y ∈ m1 ++ m2 := fun y hy => by
      have := hs y (.tail _ hy)
      rcases List.mem_append.1 this with h | h
      · exact List.mem_append_left _ h
      · rcases List.mem_cons.1 h with rfl | h
        · exact absurd hy h1
        · exact List.mem_append_right _ h
    have ih := sub_all h2 hr (by simp only [List.length_append, List.length_cons] at hl ⊢; omega)
    rcases List.mem_append.1 hx with h | h
    · exact .tail _ (ih x (List.mem_append_left _ h))
    · rcases List.mem_cons.1 h with rfl | h
      · exact .head _
      · exact .tail _ (ih x (List.mem_append_right _ h))
/-- A whole plan that is accepted. -/
structure Whole (p : Prob) (T : List (Int × Int)) : Prop where
  ok : okP p
  slots : slotsErr p T = 0
  len : T.length = p.2.1.length
theorem Whole.perm {p : Prob} {T : List (Int × Int)} (h : Whole p T) (n : Nat) : ((T.drop n).map (·.1)).Perm (restF p (T.take n)) := by
  obtain ⟨h1, h2⟩ := slots_nodup h.slots
  have e : T.map (·.1) = (T.take n).map (·.1) ++ (T.drop n).map (·.1) := by rw [← List.map_append, List.take_append_drop]
  rw [e] at h1
  obtain ⟨n1, n2, n3⟩ := List.nodup_append.1 h1
  refine (List.perm_ext_iff_of_nodup n2 (rest_nodup p _)).2 fun a => ?_
  constructor
  · intro ha
    refine rest_mem.2 ⟨h2 a (by rw [e]; exact List.mem_append_right _ ha), ?_⟩
    cases hh : hasS (T.take n) a with
    | false => rfl
    | true => exact absurd rfl (n3 a (hasS_iff.1 hh) a ha)
  · intro ha
    obtain ⟨b1, b2⟩ := rest_mem.1 ha
    have : a ∈ T.map (·.1) := by
      refine sub_all (slots_nodup h.slots).1 (m := (List.range p.2.1.length).map fun (j : Nat) => (j : Int)) (fun x hx => ?_) (by simp [h.len]) a ?_
      · have hx2 : inA p x := h2 x hx
        obtain ⟨g1, g2⟩ := hx2
        exact List.mem_map.2 ⟨x.toNat, List.mem_range.2 (by omega), by omega⟩
      obtain ⟨g1, g2⟩ := b1
      exact List.mem_map.2 ⟨a.toNat, List.mem_range.2 (by omega), by omega⟩
    rw [e] at this
    rcases List.mem_append.1 this with h' | h'
    · rw [hasS_iff.2 h'] at b2
      cases b2
    · exact h'
/-- After any of its beginnings the best plan is there, and costs no more. -/
theorem Whole.best {p : Prob} {T : List (Int × Int)} (h : Whole p T) (n : Nat) : (bestF p (T.take n)).2.2 = true ∧ (bestF p (T.take n)).2.1 ≤ costF p T := by
  have hv := h.ok.v
  have hl : (T.take n).length ≤ T.length := by rw [List.length_take]; omega
  have e1 : T.take (T.take n).length = T.take n := by
    rw [List.length_take]
    rcases Nat.lt_or_ge n T.length with h1 | h1
    · rw [show min n T.length = n by omega]
    · rw [show min n T.length = T.length by omega, List.take_length, List.take_of_length_le h1]
  have e2 : T.drop (T.take n).length = T.drop n := by
    rw [List.length_take]
    rcases Nat.lt_or_ge n T.length with h1 | h1
    · rw [show min n T.length = n by omega]
    · rw [show min n T.length = T.length by omega, List.drop_length, List.drop_eq_nil_of_le h1]
  obtain ⟨S, hS, hs⟩ := cont_soon h.slots (T.length - (T.take n).length) (T.take n) (by omega) (by rw [e1]; exact Soon.refl _)
  rw [e2] at hS
  have hm : (T.drop n).map (·.1) ∈ perms 8 (restF p (T.take n)) := perms_all 8 _ _ (by have := rest_len hv (T.take n); omega) (h.perm n)
  have hc : contF p (T.take n) ((T.drop n).map (·.1)) = (S, true) := by rw [contF, hS]
  have hb := best_found hm (by rw [hc])
  refine ⟨hb, ?_⟩
  have := (best_some hb).2.2 _ hm (by rw [hc])
  rw [hc] at this
  simp only at this
  have := cost_le hv (slotV_of hv h.slots) hs
  omega
theorem Whole.bestW {p : Prob} {T : List (Int × Int)} (h : Whole p T) (n : Nat) : Whole p (bestF p (T.take n)).1 ∧ (bestF p (T.take n)).1.take (T.take n).length = T.take n ∧ costF p (bestF p (T.take n)).1 = (bestF p (T.take n)).2.1 := by
  have hs := slots_take h.slots n
  have h6 := h.ok.v.six
  have hf : FixV p (T.take n) := FixV.of h.ok hs (by rw [List.length_take, h.len]; omega)
  obtain ⟨g1, g2, g3⟩ := best_slots hf hs (h.best n).1
  exact ⟨⟨h.ok, g1, g3⟩, g2, (best_some (h.best n).1).2.1.symm⟩
/-- Fixed later it costs no less. -/
theorem Whole.later {p : Prob} {T : List (Int × Int)} (h : Whole p T) {n m : Nat} (hnm : n ≤ m) (hm : m ≤ T.length) : (bestF p (T.take n)).2.1 ≤ (bestF p (T.take m)).2.1 := by
  obtain ⟨g1, g2, g3⟩ := h.bestW m
  have := (g1.best n).2
  have e : (bestF p (T.take m)).1.take n = T.take n := by
    have := congrArg (List.take n) g2
    rw [List.take_take, List.take_take, List.length_take] at this
    rwa [show min n (min m T.length) = n by omega, show min n m = n by omega] at this
  rw [e] at this
  omega
/-- After all of its slots it is itself. -/
theorem Whole.self {p : Prob} {T : List (Int × Int)} (h : Whole p T) : bestF p T = (T, costF p T, true) := by
  have hr : restF p T = [] := by
    have := h.perm T.length
    rw [List.drop_length, List.take_length] at this
    exact List.nil_perm.1 this
  rw [bestF, hr, perms_nil]
  rfl
/-! ### fixed slots -/
def fixN (T : List (Int × Int)) (t : Int) : Nat → Nat
  | 0 => 0
  | i + 1 => if (T.getD i (0, 0)).2 ≤ t then i + 1 else fixN T t i
theorem fixN_le (T : List (Int × Int)) (t : Int) : ∀ i, fixN T t i ≤ i
  | 0 => Nat.le_refl _
  | i + 1 => by
    have := fixN_le T t i
    unfold fixN
    split <;> omega
theorem fixN_gt (T : List (Int × Int)) (t : Int) : ∀ i j, fixN T t i ≤ j → j < i → ¬ (T.getD j (0, 0)).2 ≤ t
  | 0, j, _, h => by omega
  | i + 1, j, h1, h2 => by
    unfold fixN at h1
    split at h1
    · omega
    · rename_i hn
      rcases Nat.lt_or_ge j i with h | h
      · exact fixN_gt T t i j h1 h
      · rw [show j = i by omega]; exact hn
theorem fixN_mono (T : List (Int × Int)) {t t' : Int} (ht : t ≤ t') : ∀ i, fixN T t i ≤ fixN T t' i
  | 0 => Nat.le_refl _
  | i + 1 => by
    have := fixN_mono T ht i
    have := fixN_le T t i
    unfold fixN
    split
    · rw [if_pos (by omega)]
      exact Nat.le_refl _
    · split <;> omega
def fixF (T : List (Int × Int)) (t : Int) : List (Int × Int) := T.take (fixN T t T.length)
end Go.Proofs.YtglokajinehbmaaGreat
end

section
namespace Go.Proofs.YtglokajinehbmaaGreat
open Go Go.Pi Go.RowKit
set_option maxRecDepth 100000
set_option linter.unusedVariables false
set_option linter.unusedSimpArgs false

def fixErr (p : Prob) (T : List (Int × Int)) (t : Int) : Int := if planE p T ≠ 0 then planE p T else if 0 ≤ t ∧ t ≤ 100000 then 0 else 2
def f17 (x : ((List (List Int) × List (List Int)) × List (ByteArray × Int × Int × Int × Int) × List Int) × List (Int × Int) × Int) : List (Int × Int) × Int := if fixErr x.1 x.2.1 x.2.2 ≠ 0 then ([], fixErr x.1 x.2.1 x.2.2) else (fixF x.2.1 x.2.2, 0)
def f17_pre (x : ((List (List Int) × List (List Int)) × List (ByteArray × Int × Int × Int × Int) × List Int) × List (Int × Int) × Int) : Prop := f97_pre x.1.2.1 ∧ x.2.1.length ≤ 1000
def f17_e : Entry := { doms := [(true, (.pair (.pair (.sl (.sl (.int .i64))) (.sl (.sl (.int .i64)))) (.pair (.sl (.pair .str (.pair (.int .i64) (.pair (.int .i64) (.pair (.int .i64) (.int .i64)))))) (.sl (.int .i64))))), (false, (.sl (.pair (.int .i64) (.int .i64)))), (false, (.int .i64))], cods := [(false, (.sl (.pair (.int .i64) (.int .i64)))), (false, (.int .i64))], pre := f17_pre, fn := f17, uq := false, total := false }
def f17_E : Env := [(42, f42_e), (43, f43_e), (53, f53_e), (54, f54_e), (55, f55_e)]
def f17_A : Anns := { loops := [(1048576, { tms := [(1, .keep), (2, .keep), (10, .data false (.int .i64)), (28, .keep), (29, .keep), (30, .data false (.int .i64))], obs := [(1048576, .keep), (1049606, .keep)], fz := [] })], own := [] }
theorem f17_run (a0 : (List (List Int) × List (List Int)) × List (ByteArray × Int × Int × Int × Int) × List Int) (a1 : List (Int × Int)) (a2 : Int) (K : (List (Int × Int) × Int) → Prop) : runF Tryz.prog f17_E f17_A 6 Tryz.f17 f17_e.doms f17_e.cods (a0, a1, a2) K =
    (f53_pre (a0, a1) ∧
    br ((f42 ([(f53 (a0, a1)).2, (f43 ((f54 a2), 2))] : List Int)) != 0)
    (K (([] : List (Int × Int)), (f42 ([(f53 (a0, a1)).2, (f43 ((f54 a2), 2))] : List Int))))
    (br (lenOk (a1.length))
    (LoopP (V := Int × Int × Unit) (fun again v => (fun (again1 : Int → Int → Prop) (v1_0 : Int) (v1_1 : Int) =>
    br (decide (v1_1 < ((a1.length) : Int)))
    (br (decide (0 ≤ v1_1) && decide (v1_1 < ((a1.length) : Int)))
    (br (decide ((a1.getD v1_1.toNat (0, 0)).2 ≤ a2))
    (again1 (IntKind.i64.wrap (v1_1 + 1)) (IntKind.i64.wrap (v1_1 + 1)))
    (again1 v1_0 (IntKind.i64.wrap (v1_1 + 1))))
    False)
    (br (decide ((0 : Int) ≤ 0 ∧ 0 ≤ v1_0 ∧ v1_0 ≤ ((a1.length) : Int)))
    (f55_pre ((a1.take v1_0.toNat).drop 0) ∧
    K ((f55 ((a1.take v1_0.toNat).drop 0)), 0))
    False))
    (fun v1_0 v1_1 => again (v1_0, v1_1, ())) v.1 v.2.1) (0, 0, ()))
    True)) := by kernel_rfl
theorem f17_t (a0 : (List (List Int) × List (List Int)) × List (ByteArray × Int × Int × Int × Int) × List Int) (a1 : List (Int × Int)) (a2 : Int) (hpre : f17_pre (a0, a1, a2)) (K : (List (Int × Int) × Int) → Prop) (hK : ∀ y : List (Int × Int) × Int, y = f17 (a0, a1, a2) → K y) : RunF Tryz.prog f17_E f17_A 6 Tryz.f17 f17_e.doms f17_e.cods (a0, a1, a2) K := by
  refine ⟨?_⟩
  rw [f17_run a0 a1 a2 K]
  obtain ⟨h22, hl⟩ := hpre
  simp only at h22 hl
  have e89 : f53 (a0, a1) = (a0, planE a0 a1) := rfl
  have e76 : f54 a2 = decide (0 ≤ a2 ∧ a2 ≤ 100000) := by
    simp [f54]
  have ee : f42 [planE a0 a1, f43 (f54 a2, 2)] = fixErr a0 a1 a2 := by
    rw [f42_cons, fixErr, e76]
    by_cases h : planE a0 a1 = 0
    · rw [if_pos h, if_neg (fun hh => hh h)]
      by_cases h2 : 0 ≤ a2 ∧ a2 ≤ 100000
      · rw [if_pos h2, decide_eq_true h2]; rfl
      · rw [if_neg h2, decide_eq_false h2]; rfl
    · rw [if_neg h, if_pos h]
  have hr : f17 (a0, a1, a2) = if fixErr a0 a1 a2 ≠ 0 then ([], fixErr a0 a1 a2) else (fixF a1 a2, 0) := rfl
  rw [hr] at hK
  refine ⟨h22, ?_⟩
  rw [e89]
  simp only
  rw [ee, br_both]
  refine ⟨fun h => ?_, fun h => ?_⟩
  · have h : fixErr a0 a1 a2 ≠ 0 := by simpa using h
    rw [if_pos h] at hK
    exact hK _ rfl
  · have h : fixErr a0 a1 a2 = 0 := by simpa using h
    rw [if_neg (fun hh => hh h)] at hK
    rw [br_true_]
    intro _
    refine LoopP.of (fun q : Int × Int × Unit => ∃ i : Nat, i ≤ a1.length ∧ q.2.1 = (i : Int) ∧ q.1 = (fixN a1 a2 i : Int)) (fun q => ((a1.length : Int) - q.2.1).toNat) (fun again q hq hag => ?_) ⟨0, by omega, rfl, rfl⟩
    obtain ⟨c, ii, u⟩ := q
    obtain ⟨i, hi, e1, e2⟩ := hq
    simp only at e1 e2
    subst e1 e2
    dsimp only
    have hf := fixN_le a1 a2 i
    rw [br_dec]
    refine ⟨fun hlt => ?_, fun hlt => ?_⟩
    · have hlt : i < a1.length := by omega
      have w1 : IntKind.i64.wrap ((i : Int) + 1) = (i : Int) + 1 := wr (by omega) (by omega)
      rw [br_false_]
      refine ⟨inb (by omega) (by omega), ?_⟩
      have hs : fixN a1 a2 (i + 1) = if (a1.getD i (0, 0)).2 ≤ a2 then i + 1 else fixN a1 a2 i := rfl
      rw [br_dec, w1, Int.toNat_natCast]
      refine ⟨fun hle => hag (_, _, ()) ⟨i + 1, by omega, by simp only; omega, ?_⟩ (by simp only; omega), fun hle => hag (_, _, ()) ⟨i + 1, by omega, by simp only; omega, ?_⟩ (by simp only; omega)⟩
      · rw [hs, if_pos hle]
        simp
      · rw [hs, if_neg hle]
    · have : i = a1.length := by omega
      subst this
      rw [br_false_]
      refine ⟨decide_eq_true (by omega), ?_⟩
      rw [Int.toNat_natCast]
      have e93 : ∀ l, f55 l = l := fun _ => rfl
      refine ⟨show ((a1.take (fixN a1 a2 a1.length)).drop 0).length ≤ 1048576 by simp; omega, hK _ ?_⟩
      rw [e93]
      rfl
theorem f17_fn : f17_e.fn = f17 := rfl
theorem f17_ok : EntryOK Tryz.prog 17 f17_e := by
  refine entryF progOK (EnvOK.cons f42_ok (EnvOK.cons f43_ok (EnvOK.cons f53_ok (EnvOK.cons f54_ok (EnvOK.cons f55_ok (EnvOK.nil)))))) (A := f17_A) (d := 6) Tryz.func17 rfl rfl rfl rfl (fun h => by cases h) fun x hpre => ?_
  obtain ⟨a0, a1, a2⟩ := x
  exact f17_t a0 a1 a2 hpre _ fun _ h => h.trans (congrFun f17_fn.symm _)
end Go.Proofs.YtglokajinehbmaaGreat
end

section
namespace Go.Proofs.YtglokajinehbmaaGreat
open Go Go.Pi Go.RowKit
set_option linter.unusedVariables false
set_option linter.unusedSimpArgs false
def gx38 (x : ((List (List Int) × List (List Int)) × List (ByteArray × Int × Int × Int × Int) × List Int) × List (Int × Int)) : Int × Int :=
  if planE x.1 x.2 ≠ 0 then (0, planE x.1 x.2) else if x.2.length ≠ x.1.2.1.length then (0, 10) else (costF x.1 x.2, 0)
def gx38_pre (x : ((List (List Int) × List (List Int)) × List (ByteArray × Int × Int × Int × Int) × List Int) × List (Int × Int)) : Prop := f97_pre x.1.2.1 ∧ x.2.length ≤ 1000
theorem planE_zero {p : Prob} {l : List (Int × Int)} (h : planE p l = 0) : okP p ∧ slotsErr p l = 0 := by
  unfold planE at h
  split at h
  · rename_i h1; exact ⟨h1, h⟩
  · rename_i h1; exact absurd h h1
theorem slotsErr_valid {p : Prob} (hp : okP p) {l : List (Int × Int)} (h : slotsErr p l = 0) : ∀ s ∈ l, slotV p s := fun s hs => by
  have := slots_valid hp.v (Nat.le_refl l.length) (fun j hj => eachE_zero h j hj) s
  rw [List.take_length] at this
  exact this hs
end Go.Proofs.YtglokajinehbmaaGreat
end

section
namespace Go.Proofs.YtglokajinehbmaaGreat
open Go Go.Pi Go.RowKit
set_option maxRecDepth 100000
set_option linter.unusedVariables false
set_option linter.unusedSimpArgs false

def replF (p : Prob) (fixed : List (Int × Int)) : List (Int × Int) × Int × Int := if planE p fixed ≠ 0 then ([], 0, planE p fixed) else ((bestF p fixed).1, (bestF p fixed).2.1, if (bestF p fixed).2.2 = true then 0 else 12)
def f19 (x : ((List (List Int) × List (List Int)) × List (ByteArray × Int × Int × Int × Int) × List Int) × List (Int × Int)) : List (Int × Int) × Int × Int := replF x.1 x.2
def f19_pre (x : ((List (List Int) × List (List Int)) × List (ByteArray × Int × Int × Int × Int) × List Int) × List (Int × Int)) : Prop := f97_pre x.1.2.1 ∧ x.2.length ≤ 900
def f19_e : Entry := { doms := [(true, (.pair (.pair (.sl (.sl (.int .i64))) (.sl (.sl (.int .i64)))) (.pair (.sl (.pair .str (.pair (.int .i64) (.pair (.int .i64) (.pair (.int .i64) (.int .i64)))))) (.sl (.int .i64))))), (false, (.sl (.pair (.int .i64) (.int .i64))))], cods := [(false, (.sl (.pair (.int .i64) (.int .i64)))), (false, (.int .i64)), (false, (.int .i64))], pre := f19_pre, fn := f19, uq := false, total := false }
def f19_E : Env := [(43, f43_e), (53, f53_e), (56, f56_e), (88, f88_e)]
def f19_A : Anns := { loops := [], own := [] }
theorem f19_run (a0 : (List (List Int) × List (List Int)) × List (ByteArray × Int × Int × Int × Int) × List Int) (a1 : List (Int × Int)) (K : (List (Int × Int) × Int × Int) → Prop) : runF Tryz.prog f19_E f19_A 6 Tryz.f19 f19_e.doms f19_e.cods (a0, a1) K =
    (f53_pre (a0, a1) ∧
    br ((f53 (a0, a1)).2 != 0)
    (K (([] : List (Int × Int)), (0, (f53 (a0, a1)).2)))
    (f56_pre (((((f53 (a0, a1)).1).1), (((f53 (a0, a1)).1).2)), a1) ∧
    K ((f56 (((((f53 (a0, a1)).1).1), (((f53 (a0, a1)).1).2)), a1)).1, (((f56 (((((f53 (a0, a1)).1).1), (((f53 (a0, a1)).1).2)), a1)).2).1, (f43 (((f56 (((((f53 (a0, a1)).1).1), (((f53 (a0, a1)).1).2)), a1)).2).2, 12)))))) := by kernel_rfl
theorem f19_t (a0 : (List (List Int) × List (List Int)) × List (ByteArray × Int × Int × Int × Int) × List Int) (a1 : List (Int × Int)) (hpre : f19_pre (a0, a1)) (K : (List (Int × Int) × Int × Int) → Prop) (hK : ∀ y : List (Int × Int) × Int × Int, y = f19 (a0, a1) → K y) : RunF Tryz.prog f19_E f19_A 6 Tryz.f19 f19_e.doms f19_e.cods (a0, a1) K := by
  refine ⟨?_⟩
  rw [f19_run a0 a1 K]
  obtain ⟨h22, hl⟩ := hpre
  simp only at h22 hl
  refine ⟨h22, ?_⟩
  have e89 : f53 (a0, a1) = (a0, planE a0 a1) := rfl
  rw [e89]
  have hr : f19 (a0, a1) = replF a0 a1 := rfl
  rw [hr, replF] at hK
  simp only
  rw [br_both]
  refine ⟨fun h => ?_, fun h => ?_⟩
  · have h : planE a0 a1 ≠ 0 := by simpa using h
    rw [if_pos h] at hK
    exact hK _ rfl
  · have h : planE a0 a1 = 0 := by simpa using h
    rw [if_neg (fun hh => hh h)] at hK
    obtain ⟨hok, hsl⟩ := planE_zero h
    refine ⟨⟨hok, slotsErr_valid hok hsl, hl⟩, hK _ ?_⟩
    have e94 : f56 (a0, a1) = bestF a0 a1 := rfl
    simp only [e94]
    rfl
theorem f19_fn : f19_e.fn = f19 := rfl
theorem f19_ok : EntryOK Tryz.prog 19 f19_e := by
  refine entryF progOK (EnvOK.cons f43_ok (EnvOK.cons f53_ok (EnvOK.cons f56_ok (EnvOK.cons f88_ok (EnvOK.nil))))) (A := f19_A) (d := 6) Tryz.func19 rfl rfl rfl rfl (fun h => by cases h) fun x hpre => ?_
  obtain ⟨a0, a1⟩ := x
  exact f19_t a0 a1 hpre _ fun _ h => h.trans (congrFun f19_fn.symm _)
end Go.Proofs.YtglokajinehbmaaGreat
end

section
namespace Go.Proofs.YtglokajinehbmaaGreat
open Go Go.Pi Go.RowKit
set_option maxRecDepth 100000
set_option linter.unusedVariables false
set_option linter.unusedSimpArgs false

def f37 (p : (List (List Int) × List (List Int)) × List (ByteArray × Int × Int × Int × Int) × List Int) : ((List (List Int) × List (List Int)) × List (ByteArray × Int × Int × Int × Int) × List Int) × Int := (p, (probOf p).2)
def f37_pre (p : (List (List Int) × List (List Int)) × List (ByteArray × Int × Int × Int × Int) × List Int) : Prop := f76_pre p
def f37_e : Entry := { doms := [(true, (.pair (.pair (.sl (.sl (.int .i64))) (.sl (.sl (.int .i64)))) (.pair (.sl (.pair .str (.pair (.int .i64) (.pair (.int .i64) (.pair (.int .i64) (.int .i64)))))) (.sl (.int .i64)))))], cods := [(true, (.pair (.pair (.sl (.sl (.int .i64))) (.sl (.sl (.int .i64)))) (.pair (.sl (.pair .str (.pair (.int .i64) (.pair (.int .i64) (.pair (.int .i64) (.int .i64)))))) (.sl (.int .i64))))), (false, (.int .i64))], pre := f37_pre, fn := f37, uq := false, total := false }
def f37_E : Env := [(76, f76_e)]
def f37_A : Anns := { loops := [], own := [] }
theorem f37_run (a0 : (List (List Int) × List (List Int)) × List (ByteArray × Int × Int × Int × Int) × List Int) (K : (((List (List Int) × List (List Int)) × List (ByteArray × Int × Int × Int × Int) × List Int) × Int) → Prop) : runF Tryz.prog f37_E f37_A 6 Tryz.f37 f37_e.doms f37_e.cods a0 K =
    (f76_pre a0 ∧
    K (a0, (f76 a0).2)) := by kernel_rfl
theorem f37_t (a0 : (List (List Int) × List (List Int)) × List (ByteArray × Int × Int × Int × Int) × List Int) (hpre : f37_pre a0) (K : (((List (List Int) × List (List Int)) × List (ByteArray × Int × Int × Int × Int) × List Int) × Int) → Prop) (hK : ∀ y : ((List (List Int) × List (List Int)) × List (ByteArray × Int × Int × Int × Int) × List Int) × Int, y = f37 a0 → K y) : RunF Tryz.prog f37_E f37_A 6 Tryz.f37 f37_e.doms f37_e.cods a0 K := by
  refine ⟨?_⟩
  rw [f37_run a0 K]
  exact ⟨hpre, hK _ rfl⟩
theorem f37_fn : f37_e.fn = f37 := rfl
theorem f37_ok : EntryOK Tryz.prog 37 f37_e := by
  refine entryF progOK (EnvOK.cons f76_ok (EnvOK.nil)) (A := f37_A) (d := 6) Tryz.func37 rfl rfl rfl rfl (fun h => by cases h) fun x hpre => ?_
  exact f37_t x hpre _ fun _ h => h.trans (congrFun f37_fn.symm _)
end Go.Proofs.YtglokajinehbmaaGreat
end

section
namespace Go.Proofs.YtglokajinehbmaaGreat
open Go Go.Pi Go.RowKit
set_option maxRecDepth 100000
set_option linter.unusedVariables false
set_option linter.unusedSimpArgs false

def f60 (l : List Int) : List Int := l
def f60_pre (l : List Int) : Prop := l.length ≤ 1048576
def f60_e : Entry := { doms := [(false, (.sl (.int .i64)))], cods := [(false, (.sl (.int .i64)))], pre := f60_pre, fn := f60, uq := true, total := false }
def f60_E : Env := []
def f60_A : Anns := { loops := [], own := [1049601, 1051648] }
theorem f60_run (a0 : List Int) (K : (List Int) → Prop) : runU Tryz.prog f60_E f60_A 6 Tryz.f60 f60_e.doms f60_e.cods a0 K =
    ((((a0.length) = 0 →
    K ([] : List Int)) ∧
    br (roomOk (0 + (a0.length)) 8)
    (K (([] : List Int) ++ a0))
    False)) := by kernel_rfl
theorem f60_t (a0 : List Int) (hpre : f60_pre a0) (K : (List Int) → Prop) (hK : ∀ y : List Int, y = f60 a0 → K y) : RunU Tryz.prog f60_E f60_A 6 Tryz.f60 f60_e.doms f60_e.cods a0 K := by
  refine ⟨?_⟩
  rw [f60_run a0 K]
  simp only [br_false_, roomOk_iff]
  have : a0.length ≤ 1048576 := hpre
  refine ⟨fun h0 => hK _ ?_, by omega, hK _ (by simp [f60])⟩
  exact (List.length_eq_zero_iff.1 h0).symm
theorem f60_fn : f60_e.fn = f60 := rfl
theorem f60_ok : EntryOK Tryz.prog 60 f60_e := by
  refine entryFU progOK (EnvOK.nil) (A := f60_A) (d := 6) Tryz.func60 rfl rfl rfl (fun h => by cases h) fun x hpre => ?_
  exact f60_t x hpre _ fun _ h => h.trans (congrFun f60_fn.symm _)
end Go.Proofs.YtglokajinehbmaaGreat
end

section
namespace Go.Proofs.YtglokajinehbmaaGreat
open Go Go.Pi Go.RowKit
set_option maxRecDepth 100000
set_option linter.unusedVariables false
set_option linter.unusedSimpArgs false

def f57 (l : List (List Int)) : List (List Int) := l
def f57_pre (l : List (List Int)) : Prop := l.length ≤ 1000 ∧ ∀ x ∈ l, x.length ≤ 1000
def f57_e : Entry := { doms := [(false, (.sl (.sl (.int .i64))))], cods := [(false, (.sl (.sl (.int .i64))))], pre := f57_pre, fn := f57, uq := false, total := false }
def f57_E : Env := [(60, f60_e)]
def f57_A : Anns := { loops := [(1048576, { tms := [(3, .ref 1053700), (6, .keep), (7, .keep), (8, .data false (.int .i64))], obs := [(1053700, .arr (.uniq) (.sl (.int .i64)))], fz := [] })], own := [] }
theorem f57_run (a0 : List (List Int)) (K : (List (List Int)) → Prop) : runF Tryz.prog f57_E f57_A 6 Tryz.f57 f57_e.doms f57_e.cods a0 K =
    (br (lenOk (a0.length))
    (LoopP (V := Int × List (List Int) × Unit) (fun again v => (fun (again1 : Int → List (List Int) → Prop) (v1_0 : Int) (v1_1 : List (List Int)) =>
    br (decide (v1_0 < ((a0.length) : Int)))
    (br (decide (0 ≤ v1_0) && decide (v1_0 < ((a0.length) : Int)))
    (f60_pre (a0.getD v1_0.toNat []) ∧
    br (roomOk ((v1_1.length) + 1) 24)
    (again1 (IntKind.i64.wrap (v1_0 + 1)) (v1_1 ++ ([(f60 (a0.getD v1_0.toNat []))] : List (List Int))))
    False)
    False)
    (K v1_1))
    (fun v1_0 v1_1 => again (v1_0, v1_1, ())) v.1 v.2.1) (0, ([] : List (List Int)), ()))
    True) := by kernel_rfl
theorem f57_t (a0 : List (List Int)) (hpre : f57_pre a0) (K : (List (List Int)) → Prop) (hK : ∀ y : List (List Int), y = f57 a0 → K y) : RunF Tryz.prog f57_E f57_A 6 Tryz.f57 f57_e.doms f57_e.cods a0 K := by
  refine ⟨?_⟩
  rw [f57_run a0 K]
  obtain ⟨h1, h2⟩ := hpre
  rw [br_true_]
  intro _
  refine LoopP.up a0.length (fun i v => v.1 = a0.take i.toNat) (fun again i v hi0 hn hI hag => ?_) (by omega) rfl
  obtain ⟨xs, u⟩ := v
  have hI : xs = a0.take i.toNat := hI
  subst hI
  dsimp only
  rw [br_dec]
  refine ⟨fun hi => ?_, fun hi => hK _ ?_⟩
  · have hil : i.toNat < a0.length := by omega
    have hlen : (a0.take i.toNat).length ≤ 1000 := by rw [List.length_take]; omega
    rw [br_false_, getD_lt hil]
    refine ⟨by simp; omega, ?_, ?_⟩
    · have := h2 _ (List.getElem_mem hil)
      show (a0[i.toNat]).length ≤ 1048576
      omega
    · rw [br_false_, roomOk_iff, wr (n := i + 1) (by omega) (by omega)]
      refine ⟨by omega, hag (_, ()) hi ?_⟩
      show a0.take i.toNat ++ [f60 a0[i.toNat]] = a0.take (i + 1).toNat
      rw [show (i + 1).toNat = i.toNat + 1 by omega, List.take_add_one, List.getElem?_eq_getElem hil]
      rfl
  · rw [f57, List.take_of_length_le (by omega)]
theorem f57_fn : f57_e.fn = f57 := rfl
theorem f57_ok : EntryOK Tryz.prog 57 f57_e := by
  refine entryF progOK (EnvOK.cons f60_ok (EnvOK.nil)) (A := f57_A) (d := 6) Tryz.func57 rfl rfl rfl rfl (fun h => by cases h) fun x hpre => ?_
  exact f57_t x hpre _ fun _ h => h.trans (congrFun f57_fn.symm _)
end Go.Proofs.YtglokajinehbmaaGreat
end

section
namespace Go.Proofs.YtglokajinehbmaaGreat
open Go Go.Pi Go.RowKit
set_option maxRecDepth 100000
set_option linter.unusedVariables false
set_option linter.unusedSimpArgs false

def f58 (l : List (ByteArray × Int × Int × Int × Int)) : List (ByteArray × Int × Int × Int × Int) := l
def f58_pre (l : List (ByteArray × Int × Int × Int × Int)) : Prop := l.length ≤ 1048576
def f58_e : Entry := { doms := [(false, (.sl (.pair .str (.pair (.int .i64) (.pair (.int .i64) (.pair (.int .i64) (.int .i64)))))))], cods := [(false, (.sl (.pair .str (.pair (.int .i64) (.pair (.int .i64) (.pair (.int .i64) (.int .i64)))))))], pre := f58_pre, fn := f58, uq := true, total := false }
def f58_E : Env := []
def f58_A : Anns := { loops := [], own := [1049601, 1051648] }
theorem f58_run (a0 : List (ByteArray × Int × Int × Int × Int)) (K : (List (ByteArray × Int × Int × Int × Int)) → Prop) : runU Tryz.prog f58_E f58_A 6 Tryz.f58 f58_e.doms f58_e.cods a0 K =
    ((((a0.length) = 0 →
    K ([] : List (ByteArray × Int × Int × Int × Int))) ∧
    br (roomOk (0 + (a0.length)) 48)
    (K (([] : List (ByteArray × Int × Int × Int × Int)) ++ a0))
    False)) := by kernel_rfl
theorem f58_t (a0 : List (ByteArray × Int × Int × Int × Int)) (hpre : f58_pre a0) (K : (List (ByteArray × Int × Int × Int × Int)) → Prop) (hK : ∀ y : List (ByteArray × Int × Int × Int × Int), y = f58 a0 → K y) : RunU Tryz.prog f58_E f58_A 6 Tryz.f58 f58_e.doms f58_e.cods a0 K := by
  refine ⟨?_⟩
  rw [f58_run a0 K]
  simp only [br_false_, roomOk_iff]
  have : a0.length ≤ 1048576 := hpre
  refine ⟨fun h0 => hK _ ?_, by omega, hK _ (by simp [f58])⟩
  exact (List.length_eq_zero_iff.1 h0).symm
theorem f58_fn : f58_e.fn = f58 := rfl
theorem f58_ok : EntryOK Tryz.prog 58 f58_e := by
  refine entryFU progOK (EnvOK.nil) (A := f58_A) (d := 6) Tryz.func58 rfl rfl rfl (fun h => by cases h) fun x hpre => ?_
  exact f58_t x hpre _ fun _ h => h.trans (congrFun f58_fn.symm _)
end Go.Proofs.YtglokajinehbmaaGreat
end

section
namespace Go.Proofs.YtglokajinehbmaaGreat
open Go Go.Pi Go.RowKit
set_option maxRecDepth 100000
set_option linter.unusedVariables false
set_option linter.unusedSimpArgs false

def f38 (x : Int × List (List (List Int) × List (List Int) × List (ByteArray × Int × Int × Int × Int) × List Int)) : Bool := f39 (x.1, 0, IntKind.i64.wrap (((x.2.getD 0 ([], [], [], [])).2.2.1.length : Int) - 1))
def f38_e : Entry := { doms := [(false, (.int .i64)), (false, (.sl (.pair (.sl (.sl (.int .i64))) (.pair (.sl (.sl (.int .i64))) (.pair (.sl (.pair .str (.pair (.int .i64) (.pair (.int .i64) (.pair (.int .i64) (.int .i64)))))) (.sl (.int .i64)))))))], cods := [(false, .bool)], pre := fun _ => True, fn := f38, uq := false, total := true, clo := true }
def f38_E : Env := [(39, f39_e)]
def f38_A : Anns := { loops := [], own := [] }
theorem f38_run (a0 : Int) (a1 : List (List (List Int) × List (List Int) × List (ByteArray × Int × Int × Int × Int) × List Int)) (K : Bool → Prop) : runC Tryz.prog f38_E f38_A 6 Tryz.f38 f38_e.doms f38_e.cods (a0, a1) K =
    (br (lenOk (((((a1.getD 0 ([], ([], ([], [])))).2).2).1).length))
    (K (f39 (a0, (0, (IntKind.i64.wrap (((((((a1.getD 0 ([], ([], ([], [])))).2).2).1).length) : Int) - 1))))))
    True) := by kernel_rfl
theorem f38_t (a0 : Int) (a1 : List (List (List Int) × List (List Int) × List (ByteArray × Int × Int × Int × Int) × List Int)) (K : Bool → Prop) (hK : ∀ y : Bool, y = f38 (a0, a1) → K y) : RunC Tryz.prog f38_E f38_A 6 Tryz.f38 f38_e.doms f38_e.cods (a0, a1) K := by
  refine ⟨?_⟩
  rw [f38_run a0 a1 K]
  rw [br_true_]
  intro _
  exact hK _ rfl
theorem f38_fn : f38_e.fn = f38 := rfl
theorem f38_ok : EntryOK Tryz.prog 38 f38_e := by
  refine entryFC progOK (EnvOK.cons f39_ok (EnvOK.nil)) (A := f38_A) (d := 6) Tryz.func38 rfl rfl rfl rfl (fun _ _ => trivial) fun x hpre => ?_
  obtain ⟨a0, a1⟩ := x
  exact f38_t a0 a1 _ fun _ h => h.trans (congrFun f38_fn.symm _)
end Go.Proofs.YtglokajinehbmaaGreat
end

section
namespace Go.Proofs.YtglokajinehbmaaGreat
set_option linter.unusedVariables false
set_option linter.unusedSimpArgs false
open Go Go.Pi
def growG {S : Type} (leaf : List Int → S → (S → Prop) → Prop) : Nat → List Int → List Int → S → (S → Prop) → Prop
  | 0, begun, rest, s, K => br (lenOk (rest.length)) (br (((rest.length) : Int) == 0)
    (leaf begun s K)
    (br (lenOk (rest.length)) (LoopP (V := Int × Unit) (fun again v =>
      br (decide (v.1 < ((rest.length) : Int)))
      (br (decide (0 ≤ v.1) && decide (v.1 < ((rest.length) : Int)))
      (br (decide ((0 : Int) ≤ 0 ∧ 0 ≤ v.1 ∧ v.1 ≤ ((rest.length) : Int)))
      (br (decide ((0 : Int) ≤ (IntKind.i64.wrap (v.1 + 1)) ∧ (IntKind.i64.wrap (v.1 + 1)) ≤ ((rest.length) : Int) ∧ ((rest.length) : Int) ≤ ((rest.length) : Int)))
      (f118_pre ([((rest.take v.1.toNat).drop 0), ((rest.take (((rest.length) : Int).toNat)).drop ((IntKind.i64.wrap (v.1 + 1)).toNat))] : List (List Int)) ∧
      br (roomOk (((f119 begun).length) + 1) 8)
      (False)
      False)
      False)
      False)
      False)
      (K s))
      (0, ())) True)) True
  | n + 1, begun, rest, s, K => br (lenOk (rest.length)) (br (((rest.length) : Int) == 0)
    (leaf begun s K)
    (br (lenOk (rest.length)) (LoopP (V := Int × S) (fun again v =>
      br (decide (v.1 < ((rest.length) : Int)))
      (br (decide (0 ≤ v.1) && decide (v.1 < ((rest.length) : Int)))
      (br (decide ((0 : Int) ≤ 0 ∧ 0 ≤ v.1 ∧ v.1 ≤ ((rest.length) : Int)))
      (br (decide ((0 : Int) ≤ (IntKind.i64.wrap (v.1 + 1)) ∧ (IntKind.i64.wrap (v.1 + 1)) ≤ ((rest.length) : Int) ∧ ((rest.length) : Int) ≤ ((rest.length) : Int)))
      (f118_pre ([((rest.take v.1.toNat).drop 0), ((rest.take (((rest.length) : Int).toNat)).drop ((IntKind.i64.wrap (v.1 + 1)).toNat))] : List (List Int)) ∧
      br (roomOk (((f119 begun).length) + 1) 8)
      (growG leaf n ((f119 begun) ++ ([(rest.getD v.1.toNat 0)] : List Int)) (f118 ([((rest.take v.1.toNat).drop 0), ((rest.take (((rest.length) : Int).toNat)).drop ((IntKind.i64.wrap (v.1 + 1)).toNat))] : List (List Int))) v.2 (fun s => again (IntKind.i64.wrap (v.1 + 1), s)))
      False)
      False)
      False)
      False)
      (K v.2))
      (0, s)) True)) True
theorem growG_ok {S : Type} {leaf : List Int → S → (S → Prop) → Prop} (V : Int → Prop) (I : List (List Int) → S → Prop)
    (hleaf : ∀ (done : List (List Int)) (o : List Int) (s : S) (K : S → Prop), I done s → (∀ a ∈ o, V a) → o.length ≤ 50 → (∀ s', I (done ++ [o]) s' → K s') → leaf o s K) :
    ∀ (n : Nat) (begun rest : List Int) (s : S) (K : S → Prop) (done : List (List Int)), rest.length ≤ n → (∀ a ∈ begun, V a) → (∀ a ∈ rest, V a) → begun.length + rest.length ≤ 50 → I done s →
      (∀ s', I (done ++ (perms n rest).map (begun ++ ·)) s' → K s') → growG leaf n begun rest s K
  | 0, begun, rest, s, K, done, h0, hb, hr, hl, hI, hK => by
    have : rest = [] := List.length_eq_zero_iff.1 (by omega)
    subst this
    unfold growG
    rw [br_true_]
    intro _
    exact hleaf done begun s K hI hb (by simp at hl; omega) fun s' e => hK s' (by simpa [perms] using e)
  | n + 1, begun, rest, s, K, done, h0, hb, hr, hl, hI, hK => by
    unfold growG
    rw [br_true_]
    intro _
    rw [br_both]
    refine ⟨fun h => ?_, fun h => ?_⟩
    · have : rest = [] := List.length_eq_zero_iff.1 (by have : ((rest.length : Nat) : Int) = 0 := by simpa using h
                                                        omega)
      subst this
      exact hleaf done begun s K hI hb (by simp at hl; omega) fun s' e => hK s' (by simpa [perms] using e)
    · have hne : rest.length ≠ 0 := fun hh => by simp [hh] at h
      rw [br_true_]
      intro _
      rw [perms_to hne] at hK
      refine LoopP.of (fun q : Int × S => ∃ i : Nat, i ≤ rest.length ∧ q.1 = (i : Int) ∧ I (done ++ (permsTo n rest i).map (begun ++ ·)) q.2) (fun q => ((rest.length : Int) - q.1).toNat) (fun again q hq hag => ?_) ⟨0, by omega, rfl, by simpa [permsTo_zero] using hI⟩
      obtain ⟨ii, s1⟩ := q
      obtain ⟨i, hi, e1, e2⟩ := hq
      simp only at e1 e2
      subst e1
      dsimp only
      rw [br_dec]
      refine ⟨fun hlt => ?_, fun hlt => ?_⟩
      · have hlt : i < rest.length := by omega
        have w1 : IntKind.i64.wrap ((i : Int) + 1) = (i : Int) + 1 := wr (by omega) (by omega)
        have n1 : ((i : Int) + 1).toNat = i + 1 := by omega
        simp only [w1, n1, Int.toNat_natCast]
        rw [br_false_]
        refine ⟨by rw [Bool.and_eq_true, decide_eq_true_iff, decide_eq_true_iff]; exact ⟨by omega, by omega⟩, ?_⟩
        rw [br_false_]
        refine ⟨decide_eq_true (by omega), ?_⟩
        rw [br_false_]
        refine ⟨decide_eq_true (by omega), ?_⟩
        have hfl := flat_two rest i
        have hol := outAt_len hlt
        refine ⟨⟨by simp, by rw [hfl, hol]; omega⟩, ?_⟩
        have e128 : f119 begun = begun := rfl
        have e127 : f118 [(rest.take i).drop 0, (rest.take rest.length).drop (i + 1)] = outAt rest i := hfl
        rw [e128, e127, br_false_, roomOk_iff]
        refine ⟨by omega, ?_⟩
        have hai : V (rest.getD i 0) := hr _ (by rw [getD_lt hlt]; exact List.getElem_mem _)
        refine growG_ok V I hleaf n _ _ _ _ (done ++ (permsTo n rest i).map (begun ++ ·)) (by rw [hol]; omega) (fun a ha => ?_) (fun a ha => hr a (outAt_mem ha)) (by rw [List.length_append, List.length_singleton, hol]; omega) e2 (fun r er => ?_)
        · rcases List.mem_append.1 ha with ha | ha
          · exact hb a ha
          · simp only [List.mem_singleton] at ha
            rw [ha]
            exact hai
        · refine hag (_, _) ⟨i + 1, by omega, by simp only; omega, ?_⟩ (by simp only; omega)
          simp only
          rw [permsTo_succ, List.map_append, ← List.append_assoc, List.map_map]
          have : ((begun ++ ·) ∘ (rest.getD i 0 :: ·)) = fun o => (begun ++ [rest.getD i 0]) ++ o := by
            funext o
            simp
          rw [this]
          exact er
      · have : i = rest.length := by omega
        subst this
        exact hK s1 e2
end Go.Proofs.YtglokajinehbmaaGreat
end
