/- Typed data in the machine's memory, an evaluator of loaded code over it, and its proof, part 4. -/
import Derived.Test.YtglijnhkdnhofaaGreatPiC
import GoSem.ClaimChange
import Derived.WideShapes
import Derived.IntWalk
import Derived.Shelf.SlSortCmp.WholeK
import Derived.Shelf.SlSortCmp.NoneTotal

section
namespace Go.Pi
open Go.RowKit
set_option linter.unusedSimpArgs false
set_option linter.unusedVariables false

section
variable {P : Program} {E : Env} {own : List Nat} {site : Nat} {o : Oper} {look look' : Look} {ρ ρ' : Operand → AV}

theorem map_pairs_congr {ps : Array (Nat × Operand)} (h : ∀ x ∈ (ps.toList.map (·.2)).toArray, ρ x = ρ' x) : (ps.toList.map fun p => (p.1, ρ p.2)) = ps.toList.map fun p => (p.1, ρ' p.2) :=
  List.map_congr_left fun p hp => by rw [h p.2 (by simp; exact ⟨p.1, by simpa using hp⟩)]

theorem map_args_congr {xs : Array Operand} (h : ∀ x ∈ xs, ρ x = ρ' x) : xs.toList.map ρ = xs.toList.map ρ' := List.map_congr_left fun x hx => h x (by simpa using hx)

theorem optInt_congr {x : Option Operand} (h : ∀ y ∈ x.toArray, ρ y = ρ' y) : optInt ρ x = optInt ρ' x := by
  cases x with
  | none => rfl
  | some y => simp only [optInt, h y (by simp)]

/-- It hangs on its operands alone. -/
theorem opF_congr (h : ∀ x ∈ o.op.operands, ρ x = ρ' x) : opF P E own site ρ look o = opF P E own site ρ' look o := by
  cases ho : o.op <;> rw [ho] at h <;> simp only [Op.operands] at h <;> simp only [opF, oPick, oAlloc, oBox, oLoad, oStore, oFieldAddr, oIndexAddr, oIndex, oField, oBinOp, oUnOp, oConvert, oBuild, oBuildSlice, oExtract, oMakeFunc, oMakeSlice, oSlice, oCall, oMakeMap, oMapUpdate, oLookup, oRange, oSliceToArrayPointer, oNilCheck, oEntry, oBinInt, oBinBool, oBinStr, oBinAgg, oBinSl, oBinNil, oClen, oCappend, oCmax, oCmin, oCvalue, ho]
  case move x => rw [h x (by simp)]
  case assign x => rw [h x (by simp)]
  case pick c x y => rw [h c (by simp), h x (by simp), h y (by simp)]
  case box t x => rw [h x (by simp)]
  case load t x => rw [h x (by simp)]
  case store t x y => rw [h x (by simp), h y (by simp)]
  case fieldAddr t x f => rw [h x (by simp)]
  case indexAddr t x i => rw [h x (by simp), h i (by simp)]
  case index t x i => rw [h x (by simp), h i (by simp)]
  case field t x f => rw [h x (by simp)]
  case binOp op t x y t' => rw [h x (by simp), h y (by simp)]
  case unOp op t x => rw [h x (by simp)]
  case convert s d x => rw [h x (by simp)]
  case build t ps => rw [map_pairs_congr h]
  case buildSlice t n ps => rw [map_pairs_congr h]
  case extract x i => rw [h x (by simp)]
  case makeFunc fv first cap => rw [map_args_congr fun x hx => h x (by simp [hx])]
  case makeSlice t x y => rw [h x (by simp), h y (by simp)]
  case slice t x lo hi mx =>
    rw [h x (by simp), optInt_congr (x := lo) fun y hy => h y (by simp only [Array.mem_append]; exact .inl (.inl (.inr hy))), optInt_congr (x := hi) fun y hy => h y (by simp only [Array.mem_append]; exact .inl (.inr hy))]
    cases mx with
    | none => cases optInt ρ' lo <;> first | rfl | (cases optInt ρ' hi <;> rfl)
    | some m =>
      have hm := h m (by simp)
      cases optInt ρ' lo with
      | none => rfl
      | some l => cases l with
        | some _ => rfl
        | none => cases optInt ρ' hi with
          | none => rfl
          | some r => cases r with
            | none => rfl
            | some _ => simp only [hm]
  case mapUpdate t m x y => rw [h m (by simp), h x (by simp), h y (by simp)]
  case lookup t m x c => rw [h m (by simp), h x (by simp)]
  case range t m => rw [h m (by simp)]
  case entry x => rw [h x (by simp)]
  case sliceToArrayPointer t x => rw [h x (by simp)]
  case nilCheck x => rw [h x (by simp)]
  case call c =>
    have hargs : ∀ x ∈ c.args, ρ x = ρ' x := fun x hx => h x (by simp [Call.operands, hx])
    have hget : ∀ i x, c.args[i]? = some x → ρ x = ρ' x := fun i x hx => hargs x (Array.mem_of_getElem? hx)
    have hmap := map_args_congr hargs
    cases hc : c.callee with
    | value f =>
      have hf : ρ f = ρ' f := h f (by simp [Call.operands, hc])
      simp only [hf, hmap]
    | invoke r m => rfl
    | builtin b =>
      cases b <;> try rfl
      case len =>
        show (match c.argTypes[0]?, c.args[0]? with
          | some t, some x => _
          | _, _ => none) = _
        cases h1 : c.args[0]? with
        | none => cases c.argTypes[0]? <;> rfl
        | some x =>
          have := hget 0 x h1
          cases c.argTypes[0]? with
          | none => rfl
          | some t => simp only [this]
      case append =>
        cases h1 : c.args[0]? with
        | none => cases c.argTypes[0]? <;> cases c.argTypes[1]? <;> rfl
        | some x => cases h2 : c.args[1]? with
          | none => cases c.argTypes[0]? <;> cases c.argTypes[1]? <;> rfl
          | some y =>
            have e1 := hget 0 x h1
            have e2 := hget 1 y h2
            cases c.argTypes[0]? <;> cases c.argTypes[1]? <;> first | rfl | simp only [e1, e2]
      case max => simp only [hmap]
      case min => simp only [hmap]

/-- Some operations do not look at memory. -/
theorem opF_look (h : cls o = 0) : opF P E own site ρ look o = opF P E own site ρ look' o := by
  unfold cls at h
  cases ho : o.op <;> simp only [ho] at h <;> try (simp at h; done)
  all_goals first
    | (simp only [opF, oPick, oAlloc, oBox, oLoad, oStore, oFieldAddr, oIndexAddr, oIndex, oField, oBinOp, oUnOp, oConvert, oBuild, oBuildSlice, oExtract, oMakeFunc, oMakeSlice, oSlice, oCall, oMakeMap, oMapUpdate, oLookup, oRange, oSliceToArrayPointer, oNilCheck, oEntry, oBinInt, oBinBool, oBinStr, oBinAgg, oBinSl, oBinNil, oClen, oCappend, oCmax, oCmin, oCvalue, ho]; done)
    | (simp only [opF, oPick, oAlloc, oBox, oLoad, oStore, oFieldAddr, oIndexAddr, oIndex, oField, oBinOp, oUnOp, oConvert, oBuild, oBuildSlice, oExtract, oMakeFunc, oMakeSlice, oSlice, oCall, oMakeMap, oMapUpdate, oLookup, oRange, oSliceToArrayPointer, oNilCheck, oEntry, oBinInt, oBinBool, oBinStr, oBinAgg, oBinSl, oBinNil, oClen, oCappend, oCmax, oCmin, oCvalue, ho]; rfl)
    | (exfalso; split at h <;> simp at h)

/-- One object at most is turned: a new one of its own, unless it writes. -/
def UpdOK (look : Look) (site : Nat) (k : Nat) (upd : List (Nat × Ob)) : Prop :=
  upd = [] ∨ (k ≠ 0 ∧ ∃ p ob, upd = [(p, ob)] ∧ (k ≠ 3 → p = site ∧ look site = none) ∧ (p = site ∨ look p ≠ none))

theorem bin_upd {op : BinOp} {k : IntKind} {x y : Int} {e : Eff} (h : bin op k x y = some e) : e.upd = [] := by
  cases op <;> simp only [bin] at h <;> first | (rw [one_eq h]; done) | (rw [chk1_eq h]; done) | (simp at h; done)

theorem writePtr_look {vs : List AV} {v : AV} {r : Bool × Nat × Ob} (e : writePtr look vs v = some r) : look r.2.1 ≠ none := by
  cases v <;> simp only [writePtr] at e <;> try (simp at e; done)
  all_goals
    split at e <;> first
      | (simp at e; done)
      | (rename_i hl
         repeat' (first | (simp at e; done) | (obtain rfl := Option.some.inj e; rw [hl]; simp; done) | split at e))

theorem opF_upd {e : Eff} (h : opF P E own site ρ look o = some e) : UpdOK look site (cls o) e.upd := by
  have none1 : ∀ {v : AV}, one v = some e → UpdOK look site (cls o) e.upd := fun h => by rw [one_eq h]; exact .inl rfl
  have chk : ∀ {c : Bool} {v : AV}, chk1 c v = some e → UpdOK look site (cls o) e.upd := fun h => by rw [chk1_eq h]; exact .inl rfl
  have own1 : ∀ {c r : Bool} {p : Option Prop} {v : AV} {ob : Ob}, cls o ≠ 0 → look site = none → some (⟨c, r, p, v, [(site, ob)]⟩ : Eff) = some e → UpdOK look site (cls o) e.upd := fun hk hs h => by
    obtain rfl := Option.some.inj h
    exact .inr ⟨hk, _, _, rfl, fun _ => ⟨rfl, hs⟩, .inl rfl⟩
  cases ho : o.op <;> simp only [opF, oPick, oAlloc, oBox, oLoad, oStore, oFieldAddr, oIndexAddr, oIndex, oField, oBinOp, oUnOp, oConvert, oBuild, oBuildSlice, oExtract, oMakeFunc, oMakeSlice, oSlice, oCall, oMakeMap, oMapUpdate, oLookup, oRange, oSliceToArrayPointer, oNilCheck, oEntry, oBinInt, oBinBool, oBinStr, oBinAgg, oBinSl, oBinNil, oClen, oCappend, oCmax, oCmin, oCvalue, ho] at h <;> try (simp at h; done)
  case store t x y =>
    split at h
    · split at h
      · split at h
        · rename_i u hu
          obtain rfl := Option.some.inj h
          have hk : cls o = 3 := by simp [cls, ho]
          exact .inr ⟨by rw [hk]; decide, _, _, rfl, fun hn => (hn hk).elim, .inr (writePtr_look hu)⟩
        · simp at h
      · simp at h
    · simp at h
  case alloc t =>
    have hk : cls o ≠ 0 := by simp [cls, ho]
    split at h
    · rename_i zs hs hz
      split at h
      · split at h
        · split at h
          · exact own1 hk hs h
          · simp at h
        · simp at h
      · exact own1 hk hs h
    · simp at h
  case box t x =>
    have hk : cls o ≠ 0 := by simp [cls, ho]
    split at h
    · rename_i zs hs hz
      split at h
      · split at h
        · split at h
          · exact own1 hk hs h
          · simp at h
        · simp at h
      · exact own1 hk hs h
    · simp at h
  case buildSlice t n ps =>
    have hk : cls o ≠ 0 := by simp [cls, ho]
    split at h
    · split at h
      · split at h
        · split at h
          · split at h
            · split at h
              · exact none1 h
              · split at h
                · rename_i hs; exact own1 hk hs h
                · simp at h
            · simp at h
          · simp at h
        · simp at h
      · simp at h
    · simp at h
  case makeSlice t x y =>
    have hk : cls o ≠ 0 := by simp [cls, ho]
    split at h
    · split at h
      · simp at h
      · rename_i hs
        split at h
        · split at h
          · exact own1 hk hs h
          · simp at h
        · simp at h
    · simp at h
  case slice t x lo hi mx =>
    split at h
    · split at h
      · split at h
        · split at h
          · obtain rfl := Option.some.inj h; exact .inl rfl
          · simp at h
        · simp at h
      · split at h
        · obtain rfl := Option.some.inj h; exact .inl rfl
        · split at h
          · split at h
            · split at h
              · obtain rfl := Option.some.inj h; exact .inl rfl
              · simp at h
            · simp at h
          · simp at h
        · simp at h
    · split at h
      · split at h
        · split at h
          · obtain rfl := Option.some.inj h; exact .inl rfl
          · simp at h
        · simp at h
      · simp at h
    · simp at h
  case sliceToArrayPointer t x =>
    split at h
    · split at h
      · split at h
        · split at h
          · exact .inl (by obtain rfl := Option.some.inj h; rfl)
          · simp at h
        · simp at h
      · simp at h
    · simp at h
  case makeMap t n =>
    have hk : cls o ≠ 0 := by simp [cls, ho]
    cases n with
    | some _ => simp at h
    | none =>
      simp only at h
      split at h
      · rename_i k e' hm hs
        split at h
        · exact own1 hk hs h
        · simp at h
      · simp at h
  case range t m =>
    have hk : cls o ≠ 0 := by simp [cls, ho]
    split at h
    · rename_i ke p ht hm hs
      split at h
      · exact own1 hk hs h
      · simp at h
    · simp at h
  case mapUpdate t m x y =>
    have hk : cls o = 3 := by simp [cls, ho]
    split at h
    · split at h
      · rename_i hob
        split at h
        · split at h
          · obtain rfl := Option.some.inj h
            exact .inr ⟨by rw [hk]; decide, _, _, rfl, fun hn => (hn hk).elim, .inr (by rw [hob]; simp)⟩
          · simp at h
        · simp at h
      · simp at h
    · simp at h
  case lookup t m x c => cases c <;> repeat' (first | exact none1 h | (simp at h; done) | split at h)
  case call c =>
    cases hc : c.callee <;> simp only [hc] at h <;> try (simp at h; done)
    case builtin b =>
      cases b <;> simp only [] at h <;> try (simp at h; done)
      case len =>
        split at h
        · split at h
          · exact none1 h
          · split at h
            · obtain rfl := Option.some.inj h; exact .inl rfl
            · simp at h
          · split at h
            · exact none1 h
            · simp at h
          · simp at h
        · simp at h
      case max => split at h <;> first | (split at h <;> first | exact none1 h | (simp at h; done)) | (simp at h; done)
      case min => split at h <;> first | (split at h <;> first | exact none1 h | (simp at h; done)) | (simp at h; done)
      case append =>
        have hk : cls o = 3 := by simp [cls, ho, hc]
        split at h
        · split at h
          · split at h
            · split at h
              · unfold appF at h
                split at h
                · split at h
                  · obtain rfl := Option.some.inj h
                    exact .inr ⟨by rw [hk]; decide, _, _, rfl, fun hn => (hn hk).elim, .inl rfl⟩
                  · simp at h
                · split at h
                  · obtain rfl := Option.some.inj h; exact .inl rfl
                  · simp at h
                · split at h
                  · rename_i hob
                    split at h
                    · split at h
                      · split at h
                        · obtain rfl := Option.some.inj h
                          exact .inr ⟨by rw [hk]; decide, _, _, rfl, fun hn => (hn hk).elim, .inr (by rw [hob]; simp)⟩
                        · obtain rfl := Option.some.inj h
                          exact .inr ⟨by rw [hk]; decide, _, _, rfl, fun hn => (hn hk).elim, .inr (by rw [hob]; simp)⟩
                        · simp at h
                      · simp at h
                    · simp at h
                  · simp at h
                · simp at h
              · simp at h
            · simp at h
          · simp at h
        · simp at h
    case value f =>
      have hk : cls o ≠ 0 := by simp [cls, ho, hc]
      split at h
      · split at h
        · split at h
          · obtain rfl := Option.some.inj h; exact .inl rfl
          · unfold callOwn at h
            split at h
            · rename_i hs
              split at h
              · exact own1 hk hs h
              · simp at h
            · simp at h
        · simp at h
      · simp at h
  case indexAddr t x i =>
    split at h <;> first
      | (simp at h; done)
      | (split at h <;> first
        | (simp at h; done)
        | (split at h <;> first
          | (simp at h; done)
          | exact chk h
          | (split at h <;> first
            | (simp at h; done)
            | exact chk h
            | (split at h <;> first | exact chk h | (simp at h; done)))))
  all_goals
    repeat' (first | exact none1 h | exact chk h | exact .inl (bin_upd h) | (simp at h; done) | split at h)

end
end Go.Pi
end

section
namespace Go.Pi
open Go.RowKit
set_option linter.unusedSimpArgs false
set_option linter.unusedVariables false

theorem asPelM_str {look look' : Look} {v : AV} {b : ByteArray} (e : asPel look v = .str b) : asPel look' v = .str b := by
  unfold asPel at e ⊢
  split at e
  · split at e
    · split at e <;> cases e
    · cases e
  · rename_i hn
    subst e
    rfl
theorem asPelM_pel {look look' : Look} (h : ∀ p ob, look p = some ob → look' p = some ob) {v : AV} {s : Sch} {xs : List s.D} {j off : Nat} (e : asPel look v = .pel s xs j off) : asPel look' v = .pel s xs j off := by
  unfold asPel at e
  split at e
  · split at e
    · rename_i ver' s' xs' ho
      unfold asPel
      simp only [h _ _ ho]
      exact e
    · cases e
  · subst e
    rfl

section
variable {P : Program} {E : Env} {own : List Nat} {site : Nat} {o : Oper} {look look' : Look} {ρ : Operand → AV}

set_option maxHeartbeats 4000000 in
theorem opF_mono (h : ∀ p ob, look p = some ob → look' p = some ob) (hs0 : cls o ≠ 1 → look site = none → look' site = none) {e : Eff} (he : opF P E own site ρ look o = some e) : opF P E own site ρ look' o = some e := by
  have hs : cls o ≠ 1 → look site = none → look' site = none := hs0
  cases ho : o.op <;> simp only [opF, oPick, oAlloc, oBox, oLoad, oStore, oFieldAddr, oIndexAddr, oIndex, oField, oBinOp, oUnOp, oConvert, oBuild, oBuildSlice, oExtract, oMakeFunc, oMakeSlice, oSlice, oCall, oMakeMap, oMapUpdate, oLookup, oRange, oSliceToArrayPointer, oNilCheck, oEntry, oBinInt, oBinBool, oBinStr, oBinAgg, oBinSl, oBinNil, oClen, oCappend, oCmax, oCmin, oCvalue, ho] at he ⊢ <;> try (first | exact he | (simp at he; done))
  case alloc t =>
    split at he
    · rename_i zs h1 h2; rw [hs (by simp [cls, ho]) h1, h2]; exact he
    · simp at he
  case box t x =>
    split at he
    · rename_i vs h1 h2
      rw [hs (by simp [cls, ho]) h1, h2]
      simp only []
      split at he
      · rename_i m el hu
        try simp only [hu]
        split at he
        · rename_i hpos
          rw [if_pos hpos]
          split at he
          · rename_i xs hx
            simp only [decN_mono (purs_le h vs) hx]
            exact he
          · simp at he
        · simp at he
      · exact he
    · simp at he
  case load t x =>
    split at he
    · rename_i r hr; simp only [readPtr_mono h hr]; exact he
    · simp at he
  case store t x y =>
    split at he
    · rename_i vs hv
      try simp only [hv]
      split at he
      · rename_i hc
        rw [if_pos hc]
        split at he
        · rename_i u hu; simp only [writePtr_mono h hu]; exact he
        · simp at he
      · simp at he
    · simp at he
  case fieldAddr t x f =>
    split at he
    · rename_i fs hu
      split at he
      · rename_i fd hf
        split at he
        · simp at he
        · rename_i hc
          simp only [not_or, Bool.not_eq_false] at hc
          try simp only [hu, hf]
          rw [if_neg (by
            simp only [not_or, Bool.not_eq_false]
            exact ⟨hc.1, hc.2.1, ptrOk_mono h hc.2.2⟩)]
          exact he
      · simp at he
    · simp at he
  case indexAddr t x i =>
    split at he
    · rename_i k n hi
      split at he
      · rename_i m el ob off hu hx
        cases hl : look ob with
        | none => simp [hl] at he
        | some q => rw [h ob q hl]; rw [hl] at he; exact he
      · exact he
      · rename_i el ob ver hu hx
        cases hl : look ob with
        | none => simp [hl] at he
        | some q => rw [h ob q hl]; rw [hl] at he; exact he
      · exact he
      · exact he
      · rename_i m el ob ver jj off hu hx
        split at he
        · rename_i hcond
          rw [if_pos ⟨hcond.1, ptrOk_mono h hcond.2⟩]
          exact he
        · simp at he
      · simp at he
    · simp at he
  case index t x i =>
    split at he
    · rename_i m el cs k n hu hx hi
      split at he
      · rename_i hc
        rw [if_pos hc]
        split at he
        · rename_i xs hd; simp only [decN_mono (purs_le h cs) hd]; exact he
        · simp at he
      · rename_i hc
        rw [if_neg hc]
        exact he
    · exact he
    · simp at he
  case buildSlice t n ps =>
    split at he
    · rename_i el hel
      try simp only [hel]
      split at he
      · rename_i zs hz
        try simp only [hz]
        split at he
        · rename_i z hd
          try simp only [hd]
          split at he
          · rename_i hc
            rw [if_pos hc]
            split at he
            · rename_i xs hx
              simp only [setParts_mono h hx]
              split at he
              · rename_i ho'; first | exact he | (simp only [ho']; exact he)
              · rename_i ho'
                try simp only [ho']
                split at he
                · rename_i h1; rw [hs (by simp [cls, ho]) h1]; exact he
                · simp at he
            · simp at he
          · simp at he
        · simp at he
      · simp at he
    · simp at he
  case makeSlice t x y =>
    split at he
    · rename_i el n c h1 h2 h3
      split at he
      · simp at he
      · rename_i h4; rw [hs (by simp [cls, ho]) h4]; exact he
    · simp at he
  case slice t x lo hi mx =>
    split at he
    · rename_i l r hmx hl hr
      try simp only [hl, hr]
      split at he
      · rename_i el hel
        try simp only [hel]
        split at he
        · rename_i xs hx
          have : asSl look' (sch P el) (ρ x) = some xs := decTy_mono h hx
          simp only [this]; exact he
        · simp at he
      · rename_i hel
        try simp only [hel]
        split at he
        · rename_i s hu hx
          have := asPelM_str (look' := look') hx
          simp only [hu, this]; exact he
        · rename_i m el s xs j off hu hx
          have := asPelM_pel h hx
          simp only [hu, this]; exact he
        · simp at he
    · rename_i m n hl hr
      try simp only [hl, hr]
      split at he
      · rename_i el k' c hel hm
        split at he
        · rename_i xs hx
          have : asSl look' (sch P el) (ρ x) = some xs := decTy_mono h hx
          try simp only [hel, hm]
          simp only [this]; exact he
        · simp at he
      · simp at he
    · simp at he
  case sliceToArrayPointer t x =>
    split at he
    · rename_i m el hu
      split at he
      · rename_i xs hx
        have : asSl look' (sch P el) (ρ x) = some xs := decTy_mono h hx
        try simp only [hu]
        simp only [this]; exact he
      · simp at he
    · simp at he
  case makeMap t n =>
    cases n with
    | some _ => simp at he
    | none =>
      simp only at he ⊢
      split at he
      · rename_i k e' hm h1; rw [hs (by simp [cls, ho]) h1]; try rw [hm]
        exact he
      · simp at he
  case mapUpdate t m x y =>
    split at he
    · rename_i k e' p ht hm
      split at he
      · rename_i ver ka va ks vs xs hp
        try simp only [ht, hm]
        rw [h _ _ hp]
        simp only
        split at he
        · rename_i hcond
          rw [if_pos hcond]
          split at he
          · rename_i kx vy hx hy
            rw [decTy_mono h hx, decTy_mono h hy]
            exact he
          · simp at he
        · simp at he
      · simp at he
    · simp at he
  case lookup t m x c =>
    split at he
    · rename_i k e' p ht hm
      split at he
      · rename_i ver ka va ks vs xs hp
        try simp only [ht, hm]
        rw [h _ _ hp]
        simp only
        split at he
        · rename_i hcond
          rw [if_pos hcond]
          split at he
          · rename_i kx z hx hz
            rw [decTy_mono h hx, hz]
            exact he
          · simp at he
        · simp at he
      · simp at he
    · simp at he
  case range t m =>
    split at he
    · rename_i ke p ht hm h1
      split at he
      · rename_i ver ka va ks vs xs hp
        try simp only [ht, hm]
        rw [hs (by simp [cls, ho]) h1]
        simp only
        rw [h _ _ hp]
        exact he
      · simp at he
    · simp at he
  case entry x =>
    split at he
    · rename_i p hx
      split at he
      · rename_i mo ver ks vs left c hp
        split at he
        · rename_i ver' ka va ks' vs' xs hmo
          try simp only [hx]
          rw [h _ _ hp]
          simp only
          rw [h _ _ hmo]
          exact he
        · simp at he
      · simp at he
    · simp at he
  case call c =>
    cases hc : c.callee <;> simp only [hc] at he ⊢ <;> try (first | exact he | (simp at he; done))
    case builtin b =>
      cases b <;> simp only [] at he ⊢ <;> try (first | exact he | (simp at he; done))
      case len =>
        split at he
        · rename_i t x ht hx
          split at he
          · exact he
          · rename_i el hu
            split at he
            · rename_i n hl; simp only [lenAV_mono h hl]; exact he
            · simp at he
          · exact he
          · simp at he
        · simp at he
      case append =>
        split at he
        · rename_i t t' x y h1 h2 h3 h4
          split at he
          · rename_i el el' hel hel'
            split at he
            · rename_i hc'
              rw [if_pos hc']
              split at he
              · rename_i ys hy
                have : asSl look' (sch P el) (ρ y) = some ys := decTy_mono h hy
                simp only [this]
                unfold appF at he ⊢
                split at he
                · split at he
                  · rename_i hn; rw [hs (by simp [cls, ho, hc]) hn]; exact he
                  · simp at he
                · exact he
                · rename_i ob ver hx
                  cases hl : look ob with
                  | none => simp [hl] at he
                  | some q => rw [h ob q hl]; rw [hl] at he; exact he
                · simp at he
              · simp at he
            · simp at he
          · simp at he
        · simp at he
    case value f =>
      split at he
      · rename_i g hg
        split at he
        · rename_i x hx
          simp only [decs_mono h hx]
          split at he
          · rename_i ho'; first | exact he | (simp only [ho']; exact he)
          · rename_i ho'
            try simp only [ho']
            unfold callOwn at he ⊢
            split at he
            · rename_i h1 h2
              rw [h1, hs (by simp [cls, ho, hc]) h2]; exact he
            · simp at he
        · simp at he
      · simp at he

end
end Go.Pi
end

section
namespace Go.Pi
open Go.RowKit
set_option linter.unusedSimpArgs false
set_option linter.unusedVariables false

section
variable {P : Program} {E : Env} {own : List Nat} {path rid : Nat} {ops : Array Oper}

theorem befores_prefix : ∀ (r : List Oper) (acc : List (List Nat)), ∃ t, befores r acc = acc ++ t
  | [], acc => ⟨[], by simp [befores]⟩
  | o :: r, acc => by
    obtain ⟨t, ht⟩ := befores_prefix r (acc ++ [bef1 acc o])
    exact ⟨_ :: t, ht.trans (by rw [List.append_assoc]; rfl)⟩

theorem addB_mem {acc : List (List Nat)} {l : List Nat} {q m : Nat} (h : m ∈ addB acc l q) : m = q ∨ m ∈ acc.getD q [] ∨ m ∈ l := by
  unfold addB at h
  split at h
  · exact .inr (.inr h)
  · rcases List.mem_append.1 h with h | h
    · rcases List.mem_cons.1 h with h | h
      · exact .inl h
      · exact .inr (.inl ((List.mem_filter.1 h).1))
    · exact .inr (.inr h)
theorem bef1_mem {acc : List (List Nat)} {o : Oper} {m : Nat} (h : m ∈ bef1 acc o) : ∃ e ∈ o.after.toList, Region.binds .any e = true ∧ (m = e.on ∨ m ∈ acc.getD e.on []) := by
  unfold bef1 at h
  have key : ∀ es : List Edge, m ∈ es.foldr (fun e l => match Region.binds .any e with
      | true => addB acc l e.on
      | false => l) [] → ∃ e ∈ es, Region.binds .any e = true ∧ (m = e.on ∨ m ∈ acc.getD e.on []) := by
    intro es
    induction es with
    | nil => intro h; cases h
    | cons e r ih =>
      intro h
      rw [List.foldr_cons] at h
      cases hb : Region.binds .any e with
      | false =>
        rw [hb] at h
        obtain ⟨e', he', h'⟩ := ih h
        exact ⟨e', .tail _ he', h'⟩
      | true =>
        rw [hb] at h
        rcases addB_mem h with h1 | h1 | h1
        · exact ⟨e, .head _, hb, .inl h1⟩
        · exact ⟨e, .head _, hb, .inr h1⟩
        · obtain ⟨e', he', h'⟩ := ih h1
          exact ⟨e', .tail _ he', h'⟩
  exact key _ h

theorem getD_prefix {acc t : List (List Nat)} {k m : Nat} (h : m ∈ acc.getD k []) : m ∈ (acc ++ t).getD k [] := by
  rcases Nat.lt_or_ge k acc.length with h1 | h1
  · simp only [List.getD_eq_getElem?_getD] at h ⊢
    rw [List.getElem?_append_left h1]; exact h
  · simp [List.getD_eq_getElem?_getD, List.getElem?_eq_none h1] at h

theorem befores_at : ∀ (r : List Oper) (acc : List (List Nat)) (j : Nat) (o : Oper) (m : Nat), r[j]? = some o → m ∈ (befores r acc).getD (acc.length + j) [] →
    ∃ e ∈ o.after.toList, Region.binds .any e = true ∧ (m = e.on ∨ m ∈ (befores r acc).getD e.on [])
  | [], acc, j, o, m, h, _ => by simp at h
  | o' :: r, acc, 0, o, m, h, hm => by
    simp at h; subst h
    obtain ⟨t, ht⟩ := befores_prefix r (acc ++ [bef1 acc o'])
    have hR : befores (o' :: r) acc = (acc ++ [bef1 acc o']) ++ t := ht
    rw [hR] at hm ⊢
    have h1 : ((acc ++ [bef1 acc o']) ++ t).getD (acc.length + 0) [] = bef1 acc o' := by
      simp [List.getD_eq_getElem?_getD, List.getElem?_append]
    rw [h1] at hm
    obtain ⟨e, he, hb, hme⟩ := bef1_mem hm
    exact ⟨e, he, hb, hme.imp id fun h2 => getD_prefix (getD_prefix h2)⟩
  | o' :: r, acc, j + 1, o, m, h, hm => by
    have := befores_at r (acc ++ [bef1 acc o']) j o m (by simpa using h) (by
        have e1 : (acc ++ [bef1 acc o']).length + j = acc.length + (j + 1) := by simp; omega
        rw [e1]; exact hm)
    exact this

/-- What is surely done before. -/
abbrev bef (ops : Array Oper) : List (List Nat) := befores ops.toList []

/-- A set of operations that holds what binds its members. -/
def Shut (ops : Array Oper) (L : Nat → Bool) : Prop := ∀ j o, L j = true → ops[j]? = some o → ∀ e ∈ o.after, Region.binds .any e = true → L e.on = true

structure Ordered (ops : Array Oper) : Prop where
  lt : ∀ j o, ops[j]? = some o → ∀ e ∈ o.after, Region.binds .any e = true → e.on < j
  free : ∀ i j oi oj, i < j → ops[i]? = some oi → ops[j]? = some oj → i ∈ (bef ops).getD j [] ∨ (freeOf (clsA ops oi) (clsA ops oj) = true ∧ oi.apart ops oj = true)

theorem ordered_of (h : drawOk ops = true) : Ordered ops := by
  unfold drawOk at h
  simp only [List.all_eq_true, List.mem_range] at h
  refine ⟨fun j o ho e he hb => ?_, fun i j oi oj hij hi hj => ?_⟩
  · have hlt : j < ops.toList.length := by simpa using (Array.getElem?_eq_some_iff.1 ho).1
    have h1 := h j hlt
    have h2 : ops.toList[j]? = some o := by simpa using ho
    rw [h2] at h1
    simp only [Bool.and_eq_true] at h1
    have h3 := List.all_eq_true.1 h1.1 e (by simpa using he)
    rw [hb] at h3
    simpa using h3
  · have hlt : j < ops.toList.length := by simpa using (Array.getElem?_eq_some_iff.1 hj).1
    have h1 := h j hlt
    have h2 : ops.toList[j]? = some oj := by simpa using hj
    rw [h2] at h1
    simp only [Bool.and_eq_true] at h1
    have h3 := List.all_eq_true.1 h1.2 i (List.mem_range.2 hij)
    have h4 : ops.toList[i]? = some oi := by simpa using hi
    rw [h4] at h3
    simp only [Bool.or_eq_true, Bool.and_eq_true] at h3
    rcases h3 with h3 | h3
    · exact .inl (by simpa using h3)
    · exact .inr h3

theorem shut_bef {L : Nat → Bool} (hS : Shut ops L) (hO : Ordered ops) : ∀ (j : Nat) (o : Oper), ops[j]? = some o → (∀ e ∈ o.after, Region.binds .any e = true → L e.on = true) → (∀ m, L m = true → m < ops.size) → ∀ m ∈ (bef ops).getD j [], L m = true := by
  intro j
  induction j using Nat.strongRecOn with
  | _ j ih =>
    intro o ho hall hsz m hm
    obtain ⟨e, he, hb, hme⟩ := befores_at ops.toList [] j o m (by simpa using ho) (by simpa using hm)
    have he' : e ∈ o.after := by simpa using he
    have hLe := hall e he' hb
    rcases hme with rfl | hme
    · exact hLe
    · have hlt := hsz _ hLe
      have hoe : ops[e.on]? = some ops[e.on] := Array.getElem?_eq_getElem hlt
      exact ih e.on (hO.lt j o ho e he' hb) _ hoe (fun e' he' hb' => hS e.on _ hLe hoe e' he' hb') hsz m hme

/-! ### canonical states -/
/-- The effects of the listed operations, in the order of the text. -/
noncomputable def stD (ops : Array Oper) (es : Nat → Eff) (L : Nat → Bool) (σ : St) : Nat → St
  | 0 => σ
  | m + 1 => match ops[m]? with
    | none => stD ops es L σ m
    | some o => match L m with
      | true => appEff o.dst (stD ops es L σ m) (es m).val (es m).upd
      | false => stD ops es L σ m

def skipE : Eff := ⟨true, true, none, .skip, []⟩

/-- An operation's effect, its guard looked at. -/
noncomputable def effD (P : Program) (E : Env) (own : List Nat) (path rid : Nat) (ops : Array Oper) (σ : St) (i : Nat) (o : Oper) : Option Eff :=
  match o.guard with
  | none => opD P E own (wrOf own path rid) ops (siteOf path rid i) (ev σ.tm) (lkD (wrOf own path rid) path rid ops.size (bef ops) ops i σ.sto) o
  | some (j, want) => match (ops[j]?).bind (·.dst) with
    | none => none
    | some d => match get σ.tm d with
      | .bool b => if b = want then opD P E own (wrOf own path rid) ops (siteOf path rid i) (ev σ.tm) (lkD (wrOf own path rid) path rid ops.size (bef ops) ops i σ.sto) o else some skipE
      | .skip => some skipE
      | _ => none

theorem goD_cons {o : Oper} {r : List Oper} {i : Nat} {rm : Prop → Prop} {σ : St} {k : St → Prop} (h : goD P E own path rid ops.size (bef ops) ops (o :: r) i rm σ k) :
    ∃ e, effD P E own path rid ops σ i o = some e ∧ e.chk = true ∧ preH e.pre ∧ goD P E own path rid ops.size (bef ops) ops r (i + 1) (fun X => rm (br e.room X True)) (appEff o.dst σ e.val e.upd) k := by
  have one : ∀ {σ' : St}, σ' = σ → (match opD P E own (wrOf own path rid) ops (siteOf path rid i) (ev σ'.tm) (lkD (wrOf own path rid) path rid ops.size (bef ops) ops i σ.sto) o with
      | some e => br e.chk (withPre e.pre (goD P E own path rid ops.size (bef ops) ops r (i + 1) (fun X => rm (br e.room X True)) (appEff o.dst σ' e.val e.upd) k)) False
      | none => False) → ∃ e, opD P E own (wrOf own path rid) ops (siteOf path rid i) (ev σ.tm) (lkD (wrOf own path rid) path rid ops.size (bef ops) ops i σ.sto) o = some e ∧ e.chk = true ∧ preH e.pre ∧ goD P E own path rid ops.size (bef ops) ops r (i + 1) (fun X => rm (br e.room X True)) (appEff o.dst σ e.val e.upd) k := by
    intro σ' hσ h
    subst hσ
    split at h
    · rename_i e he
      obtain ⟨hc, h⟩ := br_no h
      obtain ⟨hp, h⟩ := withPre_iff.1 h
      exact ⟨e, he, hc, hp, h⟩
    · exact h.elim
  unfold goD at h
  unfold effD
  cases hg : o.guard with
  | none =>
    rw [hg] at h
    exact one rfl h
  | some gw =>
    obtain ⟨j, want⟩ := gw
    rw [hg] at h
    simp only at h ⊢
    split at h
    · exact h.elim
    · rename_i d hd
      simp only [hd]
      split at h
      · rename_i b hb
        simp only [hb]
        have hset : ∀ c, b = c → ({ σ with tm := σ.tm.set d (.bool c) } : St) = σ := fun c e => by rw [set_same (by simp) (by rw [hb, e])]
        cases want with
        | true =>
          simp only at h
          cases b with
          | true =>
            have h := br_true rfl h
            simp only [if_true]
            exact one (hset true rfl) h
          | false =>
            have h := br_false rfl h
            rw [hset false rfl] at h
            exact ⟨skipE, by simp, rfl, trivial, h⟩
        | false =>
          simp only at h
          cases b with
          | true =>
            have h := br_true rfl h
            rw [hset true rfl] at h
            exact ⟨skipE, by simp, rfl, trivial, h⟩
          | false =>
            have h := br_false rfl h
            simp only [if_true]
            exact one (hset false rfl) h
      · rename_i hb
        simp only [hb]
        exact ⟨skipE, rfl, rfl, trivial, h⟩
      · exact h.elim

theorem stD_congr {es es' : Nat → Eff} {L L' : Nat → Bool} {σ : St} : ∀ (m : Nat), (∀ i, i < m → es i = es' i ∧ L i = L' i) → stD ops es L σ m = stD ops es' L' σ m
  | 0, _ => rfl
  | m + 1, h => by
    have ih := stD_congr (σ := σ) m fun i hi => h i (by omega)
    obtain ⟨h1, h2⟩ := h m (by omega)
    simp only [stD, ih, h1, h2]

/-- The effects, all of them. -/
theorem goD_all {σ0 : St} {k : St → Prop} {N : Nat} (hN : N ≤ ops.size) : ∀ (r : List Oper) (i : Nat) (rm : Prop → Prop) (es0 : Nat → Eff), r = (ops.toList.take N).drop i → i ≤ N → goD P E own path rid ops.size (bef ops) ops r i rm (stD ops es0 (fun _ => true) σ0 i) k → (∀ X Y : Prop, (X ↔ Y) → (rm X ↔ rm Y)) →
    ∃ es : Nat → Eff, (∀ m, (m < i ∨ N ≤ m) → es m = es0 m) ∧ (∀ m o, i ≤ m → m < N → ops[m]? = some o → effD P E own path rid ops (stD ops es (fun _ => true) σ0 m) m o = some (es m) ∧ (es m).chk = true ∧ preH (es m).pre) ∧
      ((∀ m, i ≤ m → m < N → (es m).room = true) → rm (k (stD ops es (fun _ => true) σ0 N)))
  | [], i, rm, es0, hr, hle, h, hrm => by
    have hi : i = N := by
      have : ((ops.toList.take N).drop i).length = 0 := by rw [← hr]; rfl
      simp at this; omega
    subst hi
    exact ⟨es0, fun _ _ => rfl, fun m o hm hm2 ho => by omega, fun _ => h⟩
  | o :: r, i, rm, es0, hr, hle, h, hrm => by
    have hlt : i < N := by
      have : 0 < ((ops.toList.take N).drop i).length := by rw [← hr]; simp
      simp at this; omega
    have hi : ops[i]? = some o := by
      have : ((ops.toList.take N).drop i)[0]? = some o := by rw [← hr]; rfl
      rw [List.getElem?_drop, List.getElem?_take, if_pos (by omega)] at this
      simpa using this
    have hr' : r = (ops.toList.take N).drop (i + 1) := by
      have : ((ops.toList.take N).drop i).drop 1 = r := by rw [← hr]; rfl
      rw [← this, List.drop_drop]
    obtain ⟨e, he, hc, hp, h⟩ := goD_cons h
    let es1 : Nat → Eff := fun m => if m = i then e else es0 m
    have hst : stD ops es1 (fun _ => true) σ0 i = stD ops es0 (fun _ => true) σ0 i := stD_congr i fun m hm => ⟨by simp [es1, Nat.ne_of_lt hm], rfl⟩
    have hst1 : stD ops es1 (fun _ => true) σ0 (i + 1) = appEff o.dst (stD ops es0 (fun _ => true) σ0 i) e.val e.upd := by
      simp only [stD, hi, hst]
      simp [es1]
    rw [← hst1] at h
    obtain ⟨es, h1, h2, h3⟩ := goD_all hN r (i + 1) _ es1 hr' hlt h (fun X Y hXY => hrm _ _ (by
      cases e.room with
      | true => exact hXY
      | false => exact Iff.rfl))
    have hei : es i = e := by rw [h1 i (.inl (by omega))]; simp [es1]
    refine ⟨es, fun m hm => by rw [h1 m (by omega)]; simp [es1, show ¬ m = i by omega], fun m o' hm hm2 ho' => ?_, fun hroom => ?_⟩
    · by_cases hmi : m = i
      · subst hmi
        rw [hi] at ho'
        simp at ho'; subst ho'
        have : stD ops es (fun _ => true) σ0 m = stD ops es0 (fun _ => true) σ0 m := stD_congr m fun q hq => ⟨by rw [h1 q (.inl (by omega))]; simp [es1, Nat.ne_of_lt hq], rfl⟩
        rw [this, hei]
        exact ⟨he, hc, hp⟩
      · exact h2 m o' (by omega) hm2 ho'
    · have h4 := h3 fun m hm hm2 => hroom m (by omega) hm2
      have h5 := hroom i (Nat.le_refl _) hlt
      rw [hei] at h5
      rw [h5] at h4
      exact h4

end
end Go.Pi
end

section
namespace Go.Pi
open Go.RowKit
set_option linter.unusedSimpArgs false
set_option linter.unusedVariables false

section
variable {P : Program} {E : Env} {own : List Nat} {path rid : Nat} {ops : Array Oper}

theorem eff_tm_ne {dst : Option Tmp} {σ : St} {v : AV} {upd : List (Nat × Ob)} {t : Nat} (h : dst ≠ some t) : get (appEff dst σ v upd).tm t = get σ.tm t := by
  cases dst with
  | none => rfl
  | some d =>
    show get (σ.tm.set d v) t = _
    rw [get_set, if_neg (fun e => h (by rw [e.1]))]

theorem eff_tm_same {dst : Option Tmp} {σ σ' : St} {v : AV} {upd : List (Nat × Ob)} {t : Nat} (hl : σ.tm.length = σ'.tm.length) (h : get σ.tm t = get σ'.tm t) : get (appEff dst σ v upd).tm t = get (appEff dst σ' v upd).tm t := by
  cases dst with
  | none => exact h
  | some d =>
    show get (σ.tm.set d v) t = get (σ'.tm.set d v) t
    rw [get_set, get_set, hl, h]

theorem eff_len {dst : Option Tmp} {σ : St} {v : AV} {upd : List (Nat × Ob)} : (appEff dst σ v upd).tm.length = σ.tm.length := by cases dst <;> simp [appEff, Tm.length_set]
theorem eff_outs {dst : Option Tmp} {σ : St} {v : AV} {upd : List (Nat × Ob)} : (appEff dst σ v upd).outs = σ.outs := rfl

theorem stD_len {es : Nat → Eff} {L : Nat → Bool} {σ : St} : ∀ m, (stD ops es L σ m).tm.length = σ.tm.length
  | 0 => rfl
  | m + 1 => by
    simp only [stD]
    split
    · exact stD_len m
    · split
      · rw [eff_len]; exact stD_len m
      · exact stD_len m

theorem stD_outs {es : Nat → Eff} {L : Nat → Bool} {σ : St} : ∀ m, (stD ops es L σ m).outs = σ.outs
  | 0 => rfl
  | m + 1 => by
    simp only [stD]
    split
    · exact stD_outs m
    · split
      · exact stD_outs m
      · exact stD_outs m

theorem stD_pres {es : Nat → Eff} {L : Nat → Bool} {σ : St} : ∀ m, Pres σ (stD ops es L σ m)
  | 0 => Pres.refl σ
  | m + 1 => by
    simp only [stD]
    split
    · exact stD_pres m
    · split
      · exact (stD_pres m).trans (Pres.eff _ _ _ _)
      · exact stD_pres m

theorem cls_le (o : Oper) : cls o ≤ 3 := by
  unfold cls
  split <;> first | decide | (split <;> decide)

theorem clsA_le (ops : Array Oper) (o : Oper) : clsA ops o ≤ 3 := by
  unfold clsA
  split
  · decide
  · exact cls_le o
theorem clsA_zero {o : Oper} (h : cls o ≠ 0) : clsA ops o ≠ 0 := by
  unfold clsA
  split
  · decide
  · exact h
theorem opD_parts {wr : Nat → Bool} {site : Nat} {ρ : Operand → AV} {look : Nat → Option Ob} {o : Oper} {e : Eff} (h : opD P E own wr ops site ρ look o = some e) : opF P E own site ρ look o = some e ∧ (appOf ops o = true → e.upd = []) ∧ (cls o = 3 → ∀ u ∈ e.upd, wr u.1 = true ∨ u.1 = site) := by
  unfold opD at h
  split at h
  · rename_i e' he
    split at h
    · cases h
    · rename_i hb
      obtain rfl := Option.some.inj h
      rw [Bool.or_eq_false_iff] at hb
      obtain ⟨hb, hb2⟩ := hb
      refine ⟨he, fun ha => ?_, fun hc u hu => ?_⟩
      · rw [ha, Bool.true_and] at hb
        simpa using hb
      · rw [hc] at hb2
        simp only [beq_self_eq_true, Bool.true_and, Bool.not_eq_false'] at hb2
        have := List.all_eq_true.1 hb2 u hu
        simpa using this
  · cases h

/-- What an effect may turn. -/
noncomputable def UpdD (own : List Nat) (ops : Array Oper) (path rid : Nat) (m k : Nat) (upd : List (Nat × Ob)) : Prop := upd = [] ∨ (k ≠ 0 ∧ ∃ p ob, upd = [(p, ob)] ∧ (k ≠ 3 → p = siteOf path rid m) ∧ (k = 3 → wrOf own path rid p = true ∨ p = siteOf path rid m) ∧ (p = siteOf path rid m ∨ hidden (wrOf own path rid) path rid ops.size (bef ops) ops m p = false))

theorem effD_upd {σ : St} {i : Nat} {o : Oper} {e : Eff} (h : effD P E own path rid ops σ i o = some e) : UpdD own ops path rid i (clsA ops o) e.upd := by
  have of : opD P E own (wrOf own path rid) ops (siteOf path rid i) (ev σ.tm) (lkD (wrOf own path rid) path rid ops.size (bef ops) ops i σ.sto) o = some e → UpdD own ops path rid i (clsA ops o) e.upd := fun h => by
    obtain ⟨h, happ, hwr⟩ := opD_parts h
    cases ha : appOf ops o with
    | true => exact .inl (happ ha)
    | false =>
      have hcl : clsA ops o = cls o := by unfold clsA; rw [ha]
      rw [hcl]
      rcases opF_upd h with h1 | ⟨h1, p, ob, h2, h3⟩
      · exact .inl h1
      · refine .inr ⟨h1, p, ob, h2, fun hk => (h3.1 hk).1, fun hk => hwr hk (p, ob) (by rw [h2]; simp), h3.2.imp id fun h4 => ?_⟩
        cases hh : hidden (wrOf own path rid) path rid ops.size (bef ops) ops i p with
        | false => rfl
        | true => exact (h4 (by unfold lkD; rw [hh])).elim
  unfold effD at h
  split at h
  · exact of h
  · split at h
    · simp at h
    · split at h
      · split at h
        · exact of h
        · obtain rfl := Option.some.inj h; exact .inl rfl
      · obtain rfl := Option.some.inj h; exact .inl rfl
      · simp at h

theorem lk_eff {dst : Option Tmp} {σ : St} {v : AV} {upd : List (Nat × Ob)} {p : Nat} (h : ∀ q ob, upd = [(q, ob)] → p ≠ q) (h1 : upd = [] ∨ ∃ q ob, upd = [(q, ob)]) : lk p (appEff dst σ v upd).sto = lk p σ.sto := by
  rcases h1 with rfl | ⟨q, ob, rfl⟩
  · rfl
  · show lk p (ups q ob σ.sto) = _
    rw [lk_ups, if_neg (h q ob rfl)]

theorem lk_eff_same {dst : Option Tmp} {σ σ' : St} {v : AV} {upd : List (Nat × Ob)} {p : Nat} (h : lk p σ.sto = lk p σ'.sto) (h1 : upd = [] ∨ ∃ q ob, upd = [(q, ob)]) : lk p (appEff dst σ v upd).sto = lk p (appEff dst σ' v upd).sto := by
  rcases h1 with rfl | ⟨q, ob, rfl⟩
  · exact h
  · show lk p (ups q ob σ.sto) = lk p (ups q ob σ'.sto)
    rw [lk_ups, lk_ups, h]

theorem UpdD.shape {path rid m k : Nat} {upd : List (Nat × Ob)} (h : UpdD own ops path rid m k upd) : upd = [] ∨ ∃ q ob, upd = [(q, ob)] := by
  rcases h with h | ⟨_, p, ob, h, _⟩
  · exact .inl h
  · exact .inr ⟨p, ob, h⟩

theorem site_inj {path rid i j : Nat} (h : siteOf path rid i = siteOf path rid j) : i = j := by unfold siteOf at h; omega

theorem free_cases {a b : Nat} (h : freeOf a b = true) : a ≠ 3 ∨ b ≠ 3 := by
  simp [freeOf] at h
  omega

/-- What an operation that is ready sees is what it sees in the order of the text. -/
structure Ready (ops : Array Oper) (L : Nat → Bool) (i : Nat) (oi : Oper) : Prop where
  at_ : ops[i]? = some oi
  out : L i = false
  bef : ∀ m ∈ (Pi.bef ops).getD i [], L m = true
  shut : ∀ j, L j = true → ∀ m ∈ (Pi.bef ops).getD j [], L m = true

theorem Ready.before {L : Nat → Bool} {i m : Nat} {oi om : Oper} (h : Ready ops L i oi) (hO : Ordered ops) (hm : ops[m]? = some om) (hlt : m < i) (hL : L m = false) : freeOf (clsA ops om) (clsA ops oi) = true ∧ om.apart ops oi = true := by
  rcases hO.free m i om oi hlt hm h.at_ with h1 | h1
  · rw [h.bef m h1] at hL; simp at hL
  · exact h1

theorem Ready.behind {L : Nat → Bool} {i m : Nat} {oi om : Oper} (h : Ready ops L i oi) (hO : Ordered ops) (hm : ops[m]? = some om) (hlt : i < m) (hL : L m = true) : freeOf (clsA ops oi) (clsA ops om) = true ∧ oi.apart ops om = true := by
  rcases hO.free i m oi om hlt h.at_ hm with h1 | h1
  · have := h.shut m hL i h1
    rw [h.out] at this; simp at this
  · exact h1

theorem ready_tm {es : Nat → Eff} {L : Nat → Bool} {σ : St} {i : Nat} {oi : Oper} (h : Ready ops L i oi) (hO : Ordered ops) {t : Nat} (ht : t ∈ oi.looksAt ops) : get (stD ops es L σ ops.size).tm t = get (stD ops es (fun _ => true) σ i).tm t := by
  have hlt := (Array.getElem?_eq_some_iff.1 h.at_).1
  have h1 : ∀ m, m ≤ i → get (stD ops es L σ m).tm t = get (stD ops es (fun _ => true) σ m).tm t := by
    intro m
    induction m with
    | zero => intro _; rfl
    | succ m ih =>
      intro hm
      have ih := ih (by omega)
      cases ho : ops[m]? with
      | none => simp only [stD, ho]; exact ih
      | some om =>
        simp only [stD, ho]
        cases hL : L m with
        | true => exact eff_tm_same (by rw [stD_len, stD_len]) ih
        | false =>
          obtain ⟨_, hap⟩ := h.before hO ho (by omega) hL
          obtain ⟨a1, a2, a3⟩ := Oper.apart_spec hap
          rw [eff_tm_ne (fun e => a1 t e ht)]
          exact ih
  have h2 : ∀ m, i ≤ m → m ≤ ops.size → get (stD ops es L σ m).tm t = get (stD ops es (fun _ => true) σ i).tm t := by
    intro m
    induction m with
    | zero => intro hm _; have : i = 0 := by omega
              subst this; rfl
    | succ m ih =>
      intro hm hn
      by_cases he : i = m + 1
      · subst he; exact h1 _ (Nat.le_refl _)
      · have ih := ih (by omega) (by omega)
        cases ho : ops[m]? with
        | none => simp only [stD, ho]; exact ih
        | some om =>
          simp only [stD, ho]
          cases hL : L m with
          | false => exact ih
          | true =>
            have hne : i ≠ m := fun e => by rw [← e, h.out] at hL; simp at hL
            obtain ⟨_, hap⟩ := h.behind hO ho (by omega) hL
            obtain ⟨a1, a2, a3⟩ := Oper.apart_spec hap
            rw [eff_tm_ne (fun e => a3 t e ht)]
            exact ih
  exact h2 _ (by omega) (Nat.le_refl _)

theorem hidden_false {n j p m : Nat} {b : List (List Nat)} (h : hidden (wrOf own path rid) path rid n b ops j p = false) (hm : m < n) (hp : p = siteOf path rid m) (hne : m ≠ j) : m ∈ b.getD j [] := by
  simp only [hidden, Bool.or_eq_false_iff, List.any_eq_false, List.mem_range] at h
  have := h.2 m hm
  simp only [hp, beq_self_eq_true, Bool.true_and, Bool.and_eq_true, bne_iff_ne, ne_eq, hne, not_false_eq_true, true_and, Bool.not_eq_true', Bool.not_eq_false] at this
  simpa using this

/-- One that does not write, beside one that writes, sees its own place alone. -/
theorem hidden_sees {n j p m : Nat} {b : List (List Nat)} {oj om : Oper} (h : hidden (wrOf own path rid) path rid n b ops j p = false) (hj : ops[j]? = some oj) (hm : ops[m]? = some om) (hne : m ≠ j) (h1 : m ∉ b.getD j []) (h2 : j ∉ b.getD m []) (h3 : clsA ops oj = 1 ∨ clsA ops oj = 2) (h4 : clsA ops om = 3) : wrOf own path rid p = false ∨ p = siteOf path rid j := by
  have hlt := (Array.getElem?_eq_some_iff.1 hm).1
  have hb : blind b ops j = true := by
    unfold blind
    have h3' : (clsA ops oj == 1 || clsA ops oj == 2) = true := by simpa using h3
    simp only [hj, h3', Bool.true_and, List.any_eq_true, List.mem_range]
    refine ⟨m, hlt, ?_⟩
    simp only [hm, h4, beq_self_eq_true, Bool.true_and, Bool.and_eq_true, bne_iff_ne, ne_eq, hne, not_false_eq_true, true_and, Bool.not_eq_true', List.contains_eq_mem, decide_eq_false_iff_not]
    exact ⟨h1, h2⟩
  unfold hidden at h
  rw [hb] at h
  simp only [Bool.true_and, Bool.or_eq_false_iff, Bool.and_eq_false_iff, bne_eq_false_iff_eq] at h
  exact h.1

/-- What is before an operation has a smaller number. -/
theorem bef_lt (hO : Ordered ops) : ∀ (j : Nat) (oj : Oper), ops[j]? = some oj → ∀ q ∈ (Pi.bef ops).getD j [], q < j := by
  intro j
  induction j using Nat.strongRecOn with
  | _ j ihj =>
    intro oj hoj q hq
    obtain ⟨e, he, hbb, hqe⟩ := befores_at ops.toList [] j oj q (by simpa using hoj) (by simpa using hq)
    have he' : e ∈ oj.after := by simpa using he
    have hl := hO.lt j oj hoj e he' hbb
    rcases hqe with rfl | hqe
    · exact hl
    · have hsz : e.on < ops.size := Nat.lt_trans hl (Array.getElem?_eq_some_iff.1 hoj).1
      exact Nat.lt_trans (ihj e.on hl _ (Array.getElem?_eq_getElem hsz) q hqe) hl

theorem ready_lk {es : Nat → Eff} {L : Nat → Bool} {σ : St} {i : Nat} {oi : Oper} (h : Ready ops L i oi) (hO : Ordered ops) (hU : ∀ m om, ops[m]? = some om → UpdD own ops path rid m (clsA ops om) (es m).upd) (hc : cls oi ≠ 0) {p : Nat} (hp : hidden (wrOf own path rid) path rid ops.size (Pi.bef ops) ops i p = false) :
    lk p (stD ops es L σ ops.size).sto = lk p (stD ops es (fun _ => true) σ i).sto := by
  have hlt := (Array.getElem?_eq_some_iff.1 h.at_).1
  -- an operation that is free of i turns nothing that i sees
  have key : ∀ m om, ops[m]? = some om → m ≠ i → (freeOf (clsA ops om) (clsA ops oi) = true ∨ freeOf (clsA ops oi) (clsA ops om) = true) → m ∉ (Pi.bef ops).getD i [] → i ∉ (Pi.bef ops).getD m [] → ∀ q ob, (es m).upd = [(q, ob)] → p ≠ q := by
    intro m om ho hne hf hnb hnb2 q ob hu hpq
    have hm := (Array.getElem?_eq_some_iff.1 ho).1
    rcases hU m om ho with h1 | ⟨h1, q', ob', h2, h3⟩
    · rw [hu] at h1; simp at h1
    · rw [hu] at h2
      simp at h2
      obtain ⟨rfl, rfl⟩ := h2
      by_cases hk : clsA ops om = 3
      · have hk1 : clsA ops oi ≠ 3 := by
          rcases hf with hf | hf
          · exact (free_cases hf).resolve_left fun e => e hk
          · exact (free_cases hf).resolve_right fun e => e hk
        have hk2 : clsA ops oi = 1 ∨ clsA ops oi = 2 := by
          have := clsA_le ops oi
          have := clsA_zero (ops := ops) hc
          omega
        have hps := hidden_sees hp h.at_ ho hne hnb hnb2 hk2 hk
        have hi := (Array.getElem?_eq_some_iff.1 h.at_).1
        rcases hps with hps | hps
        · rcases h3.2.1 hk with h5 | h5
          · rw [← hpq, hps] at h5
            cases h5
          · exact hnb (hidden_false hp hm (hpq.trans h5) hne)
        · rcases h3.2.2 with h4 | h4
          · exact hne (site_inj (h4.symm.trans (hpq.symm.trans hps)))
          · exact hnb2 (hidden_false h4 hi (hpq.symm.trans hps) (Ne.symm hne))
      · exact hnb (hidden_false hp hm (hpq.trans (h3.1 hk)) hne)
  have h1 : ∀ m, m ≤ i → lk p (stD ops es L σ m).sto = lk p (stD ops es (fun _ => true) σ m).sto := by
    intro m
    induction m with
    | zero => intro _; rfl
    | succ m ih =>
      intro hm
      have ih := ih (by omega)
      cases ho : ops[m]? with
      | none => simp only [stD, ho]; exact ih
      | some om =>
        simp only [stD, ho]
        cases hL : L m with
        | true => exact lk_eff_same ih (hU m om ho).shape
        | false =>
          obtain ⟨hf, _⟩ := h.before hO ho (by omega) hL
          rw [lk_eff (key m om ho (by omega) (.inl hf) (fun hb => by rw [h.bef m hb] at hL; simp at hL) (fun hb => by have := bef_lt hO m om ho i hb; omega)) (hU m om ho).shape]
          exact ih
  have h2 : ∀ m, i ≤ m → m ≤ ops.size → lk p (stD ops es L σ m).sto = lk p (stD ops es (fun _ => true) σ i).sto := by
    intro m
    induction m with
    | zero => intro hm _; have : i = 0 := by omega
              subst this; rfl
    | succ m ih =>
      intro hm hn
      by_cases he : i = m + 1
      · subst he; exact h1 _ (Nat.le_refl _)
      · have ih := ih (by omega) (by omega)
        cases ho : ops[m]? with
        | none => simp only [stD, ho]; exact ih
        | some om =>
          simp only [stD, ho]
          cases hL : L m with
          | false => exact ih
          | true =>
            have hne : i ≠ m := fun e => by rw [← e, h.out] at hL; simp at hL
            obtain ⟨hf, _⟩ := h.behind hO ho (by omega) hL
            have hnb : m ∉ (Pi.bef ops).getD i [] := fun hb => by
              have := bef_lt hO i oi h.at_ m hb
              omega
            have hnb2 : i ∉ (Pi.bef ops).getD m [] := fun hb => by
              have := h.shut m hL i hb
              rw [h.out] at this; simp at this
            rw [lk_eff (key m om ho (fun e => hne e.symm) (.inr hf) hnb hnb2) (hU m om ho).shape]
            exact ih
  exact h2 _ (by omega) (Nat.le_refl _)

end
end Go.Pi
end

section
namespace Go.Pi
open Go.RowKit
set_option linter.unusedSimpArgs false
set_option linter.unusedVariables false

section
variable {P : Program} {E : Env} {own : List Nat} {path rid : Nat} {ops : Array Oper}
variable {B : Nat → Prop} {w0 : World} {S0 : Cells} {outs : Outs} {Q : Exit → Act → World → Prop}

theorem ev_same {σ σ' : St} {o : Oper} (h : ∀ t ∈ o.looksAt ops, get σ.tm t = get σ'.tm t) : ∀ x ∈ o.op.operands, ev σ.tm x = ev σ'.tm x := by
  intro x hx
  cases x with
  | tmp t => exact h t (List.mem_append_left _ (List.mem_filterMap.2 ⟨.tmp t, by simpa using hx, rfl⟩))
  | const v => rfl
  | global g => rfl
  | func f => rfl

/-- An operation that is ready does what it does in the order of the text. -/
theorem ready_op {es : Nat → Eff} {L : Nat → Bool} {σ : St} {i : Nat} {oi : Oper} {e : Eff} (h : Ready ops L i oi) (hO : Ordered ops) (hU : ∀ m om, ops[m]? = some om → UpdD own ops path rid m (clsA ops om) (es m).upd)
    (he : opF P E own (siteOf path rid i) (ev (stD ops es (fun _ => true) σ i).tm) (lkD (wrOf own path rid) path rid ops.size (bef ops) ops i (stD ops es (fun _ => true) σ i).sto) oi = some e) :
    opF P E own (siteOf path rid i) (ev (stD ops es L σ ops.size).tm) (lks (stD ops es L σ ops.size)) oi = some e := by
  rw [opF_congr (ev_same (ops := ops) (σ := stD ops es (fun _ => true) σ i) (σ' := stD ops es L σ ops.size) fun t ht => (ready_tm h hO ht).symm)] at he
  have hlt := (Array.getElem?_eq_some_iff.1 h.at_).1
  have hown : hidden (wrOf own path rid) path rid ops.size (bef ops) ops i (siteOf path rid i) = false := by
    simp only [hidden, bne_self_eq_false, Bool.and_false, Bool.false_or, List.any_eq_false, List.mem_range]
    intro m hm hh
    simp only [Bool.and_eq_true, beq_iff_eq, bne_iff_ne, ne_eq] at hh
    exact hh.2.1 (site_inj hh.1).symm
  by_cases hc : cls oi = 0
  · rw [opF_look (look' := lks (stD ops es L σ ops.size)) hc] at he
    exact he
  · have hl : lkD (wrOf own path rid) path rid ops.size (bef ops) ops i (stD ops es (fun _ => true) σ i).sto = lkD (wrOf own path rid) path rid ops.size (bef ops) ops i (stD ops es L σ ops.size).sto := by
      funext p
      unfold lkD
      cases hp : hidden (wrOf own path rid) path rid ops.size (bef ops) ops i p with
      | true => rfl
      | false => exact (ready_lk h hO hU hc hp).symm
    rw [hl] at he
    refine opF_mono (fun p ob hp => ?_) (fun h1 hp => ?_) he
    · unfold lkD at hp
      split at hp
      · simp at hp
      · exact hp
    · unfold lkD at hp
      rw [hown] at hp
      exact hp

/-- What an operation does may be told behind all that is done. -/
theorem commute {es : Nat → Eff} {L : Nat → Bool} {σ : St} {i : Nat} {oi : Oper} (h : Ready ops L i oi) (hO : Ordered ops) (hU : ∀ m om, ops[m]? = some om → UpdD own ops path rid m (clsA ops om) (es m).upd) :
    (stD ops es (fun m => L m || m == i) σ ops.size).tm = (appEff oi.dst (stD ops es L σ ops.size) (es i).val (es i).upd).tm ∧
    ∀ p, lk p (stD ops es (fun m => L m || m == i) σ ops.size).sto = lk p (appEff oi.dst (stD ops es L σ ops.size) (es i).val (es i).upd).sto := by
  have hlt := (Array.getElem?_eq_some_iff.1 h.at_).1
  have h0 : stD ops es (fun m => L m || m == i) σ i = stD ops es L σ i := stD_congr i fun m hm => ⟨rfl, by
    have : (m == i) = false := by simp; omega
    simp [this]⟩
  have key : ∀ m, i + 1 ≤ m → m ≤ ops.size → (stD ops es (fun m => L m || m == i) σ m).tm = (appEff oi.dst (stD ops es L σ m) (es i).val (es i).upd).tm ∧
      ∀ p, lk p (stD ops es (fun m => L m || m == i) σ m).sto = lk p (appEff oi.dst (stD ops es L σ m) (es i).val (es i).upd).sto := by
    intro m
    induction m with
    | zero => intro hm; omega
    | succ m ih =>
      intro hm hn
      by_cases he : m = i
      · subst he
        simp only [stD, h.at_, h0, h.out, beq_self_eq_true, Bool.or_true]
        exact ⟨trivial, fun _ => trivial⟩
      · obtain ⟨ih1, ih2⟩ := ih (by omega) (by omega)
        have hmi : (m == i) = false := by simp; omega
        cases ho : ops[m]? with
        | none => simp only [stD, ho]; exact ⟨ih1, ih2⟩
        | some om =>
          simp only [stD, ho, hmi, Bool.or_false]
          cases hL : L m with
          | false => exact ⟨ih1, ih2⟩
          | true =>
            obtain ⟨hf, hap⟩ := h.behind hO ho (by omega) hL
            obtain ⟨a1, a2, a3⟩ := Oper.apart_spec hap
            simp only
            refine ⟨?_, fun p => ?_⟩
            · -- different slots
              cases hd : oi.dst with
              | none =>
                rw [hd] at ih1
                cases hd2 : om.dst with
                | none => exact ih1
                | some d2 =>
                  show (stD ops es (fun m => L m || m == i) σ m).tm.set d2 _ = (stD ops es L σ m).tm.set d2 _
                  rw [ih1]; rfl
              | some d =>
                rw [hd] at ih1
                cases hd2 : om.dst with
                | none => exact ih1
                | some d2 =>
                  have hne : d ≠ d2 := fun e => a2 d hd (by rw [hd2, e])
                  show (stD ops es (fun m => L m || m == i) σ m).tm.set d2 (es m).val = ((stD ops es L σ m).tm.set d2 (es m).val).set d (es i).val
                  rw [ih1]
                  exact Tm.set_comm _ _ hne
            · -- different objects
              have ih2 := ih2 p
              rcases hU m om ho with hu | ⟨hk, q, ob, hu, hq⟩
              · rw [hu]
                have e1 : ∀ (dst : Option Tmp) (τ : St) (v : AV), lk p (appEff dst τ v []).sto = lk p τ.sto := fun _ _ _ => rfl
                rw [e1, ih2]
                rcases hU i oi h.at_ with hu2 | ⟨hk2, q2, ob2, hu2, hq2⟩
                · rw [hu2]; rfl
                · rw [hu2]; rfl
              · rcases hU i oi h.at_ with hu2 | ⟨hk2, q2, ob2, hu2, hq2⟩
                · rw [hu2] at ih2 ⊢
                  rw [hu]
                  exact lk_eff_same (by exact ih2) (.inr ⟨q, ob, rfl⟩)
                · have hqq : q ≠ q2 := by
                    have hnb2 : i ∉ (Pi.bef ops).getD m [] := fun hb => by
                      have := h.shut m hL i hb
                      rw [h.out] at this; simp at this
                    have hnb : m ∉ (Pi.bef ops).getD i [] := fun hb => by
                      have := bef_lt hO i oi h.at_ m hb
                      omega
                    intro e
                    by_cases c1 : clsA ops oi = 3
                    · have c2 : clsA ops om ≠ 3 := (free_cases hf).resolve_left fun e => e c1
                      have c3 := hq.1 c2
                      rcases hq2.2.2 with c4 | c4
                      · have := site_inj (c3.symm.trans (e.trans c4))
                        omega
                      · exact hnb (hidden_false c4 (by omega) (e.symm.trans c3) (by omega))
                    · have c3 := hq2.1 c1
                      rcases hq.2.2 with c4 | c4
                      · have := site_inj (c4.symm.trans (e.trans c3))
                        omega
                      · exact hnb2 (hidden_false c4 (by omega) (e.trans c3) (by omega))
                  rw [hu2] at ih2 ⊢
                  rw [hu]
                  have e1 : ∀ (dst : Option Tmp) (τ : St) (v : AV) (q : Nat) (ob : Ob), lk p (appEff dst τ v [(q, ob)]).sto = if p = q then some ob else lk p τ.sto := fun _ τ _ q ob => by
                    show lk p (ups q ob τ.sto) = _
                    rw [lk_ups]
                  rw [e1] at ih2
                  rw [e1, e1, e1, ih2]
                  by_cases h5 : p = q
                  · by_cases h6 : p = q2
                    · exact (hqq (h5.symm.trans h6)).elim
                    · rw [if_pos h5, if_neg h6, if_pos h5]
                  · rw [if_neg h5, if_neg h5]
  exact key _ (by omega) (Nat.le_refl _)

theorem filter_lt {p p' : Nat → Bool} {i : Nat} (hle : ∀ m, p' m = true → p m = true) (h1 : p i = true) (h2 : p' i = false) : ∀ (l : List Nat), i ∈ l → (l.filter p').length < (l.filter p).length
  | [], h => by simp at h
  | x :: r, h => by
    have hall : ∀ (l : List Nat), (l.filter p').length ≤ (l.filter p).length := by
      intro l
      induction l with
      | nil => simp
      | cons y l ih =>
        simp only [List.filter_cons]
        cases hy : p' y with
        | true => simp only [hle y hy, if_true, List.length_cons]; omega
        | false => cases p y <;> simp <;> omega
    simp only [List.filter_cons]
    by_cases hx : x = i
    · subst hx
      simp only [h1, h2, if_true, Bool.false_eq_true, if_false, List.length_cons]
      have := hall r
      omega
    · have hm : i ∈ r := by
        rcases List.mem_cons.1 h with e | e
        · exact (hx e.symm).elim
        · exact e
      have ih := filter_lt hle h1 h2 r hm
      cases hy : p' x with
      | true => simp only [hle x hy, if_true, List.length_cons]; omega
      | false => cases p x <;> simp <;> omega

theorem stD_lps {ops : Array Oper} {es : Nat → Eff} {L : Nat → Bool} {σ : St} : ∀ (m : Nat), (stD ops es L σ m).lps = σ.lps
  | 0 => rfl
  | m + 1 => by
    simp only [stD]
    split
    · exact stD_lps m
    · split
      · exact stD_lps m
      · exact stD_lps m

theorem count_ge {p : Nat → Bool} {N : Nat} (h : ∀ m, N ≤ m → p m = true) : ∀ n, n - N ≤ ((List.range n).filter p).length
  | 0 => by simp
  | n + 1 => by
    have := count_ge h n
    rw [List.range_succ, List.filter_append, List.length_append]
    by_cases hn : N ≤ n
    · have : [n].filter p = [n] := by simp [h n hn]
      rw [this, List.length_singleton]
      omega
    · omega

theorem getD_tf (listed : Array Bool) (m : Nat) (hm : m < listed.size) : listed.getD m true = listed.getD m false := by simp [Array.getD, hm]

theorem LsUp.shut {listed : Array Bool} {s : Nat} (h : LsUp ops listed s) (hO : Ordered ops) : Shut ops (fun m => listed.getD m false) := fun j o hj ho e he hb => by
  have hji : j < s := by
    rcases Nat.lt_or_ge j s with h3 | h3
    · exact h3
    · have hj : listed.getD j false = true := hj
      rw [h.no j h3] at hj
      cases hj
  exact h.yes e.on (by have := hO.lt j o ho e he hb; omega)

theorem listed_small {listed : Array Bool} (hsz : listed.size = ops.size) (m : Nat) (hm : listed.getD m false = true) : m < ops.size := by
  rcases Nat.lt_or_ge m listed.size with h3 | h3
  · omega
  · have h4 : ¬ (m < listed.size) := by omega
    simp [Array.getD, h4] at hm

theorem cut_all {N : Nat} (hT : cutOK ops N = true) : ∀ i, N ≤ i → i < ops.size → ∀ m, m < N → m ∈ (bef ops).getD i [] := fun i hi hlt m hm => by
  have h1 := List.all_eq_true.1 hT i (List.mem_range.2 hlt)
  rw [show decide (i < N) = false from decide_eq_false (by omega)] at h1
  have := List.all_eq_true.1 h1 m (List.mem_range.2 hm)
  simpa [bef] using this

theorem set_listed {listed : Array Bool} {i : Nat} (hi : i < listed.size) (m : Nat) : (listed.setIfInBounds i true).getD m false = (listed.getD m false || m == i) := by
  by_cases hm : m = i
  · subst hm
    simp [Array.getD_eq_getD_getElem?, Array.getElem?_setIfInBounds, hi]
  · have : (m == i) = false := by simpa using hm
    simp [Array.getD_eq_getD_getElem?, Array.getElem?_setIfInBounds, Ne.symm hm, this]

theorem draw_end : DrawEnd P := by
  intro ro a w Q ops hq fuel listed hl
  have hnil : Region.ready .any ops listed = [] := by
    cases hr : Region.ready .any ops listed with
    | nil => rfl
    | cons q r =>
      have hq : q ∈ Region.ready .any ops listed := by rw [hr]; simp
      obtain ⟨h0, o, ho, _⟩ := mem_ready.1 hq
      have hlt := (Array.getElem?_eq_some_iff.1 ho).1
      rw [getD_tf listed q (by rw [hl.size]; exact hlt), hl.yes q hlt] at h0
      cases h0
  cases fuel with
  | zero => exact ⟨hnil, hq⟩
  | succ f => exact ⟨fun _ => hq, fun q hq => by rw [hnil] at hq; cases hq⟩

theorem draw_one : DrawOne P := by
  intro ro a w Q ops s hdr hs hcut hw fuel listed hl hf
  have hO := ordered_of hdr
  have hsz := hl.size
  cases fuel with
  | zero => omega
  | succ fuel =>
    refine ⟨fun hnil => ?_, fun q hq => ?_⟩
    · have : s ∈ Region.ready .any ops listed := mem_ready.2 ⟨by rw [getD_tf listed s (by omega)]; exact hl.no s (Nat.le_refl _), ops[s], Array.getElem?_eq_getElem hs, fun e he hb =>
        hl.yes e.on (hO.lt s _ (Array.getElem?_eq_getElem hs) e he hb)⟩
      rw [hnil] at this
      cases this
    · obtain ⟨h0, o, ho, hall⟩ := mem_ready.1 hq
      have hlt := (Array.getElem?_eq_some_iff.1 ho).1
      have hLq : listed.getD q false = false := by rw [← getD_tf listed q (by omega)]; exact h0
      have hbef := shut_bef (hl.shut hO) hO q o ho hall (listed_small hsz)
      have hqi : q = s := by
        rcases Nat.lt_trichotomy q s with h3 | h3 | h3
        · rw [hl.yes q h3] at hLq
          cases hLq
        · exact h3
        · have := hbef s (cut_all hcut q (by omega) hlt s (by omega))
          rw [hl.no s (Nat.le_refl _)] at this
          cases this
      subst hqi
      refine wpOpIn_mono (fun a w hh => hh fuel _ ⟨by simpa using hsz, fun m hm => ?_, fun m hm => ?_⟩ (by omega)) hw
      · rw [set_listed (by omega)]
        rcases Nat.lt_or_ge m q with h3 | h3
        · rw [hl.yes m h3, Bool.true_or]
        · have : m = q := by omega
          simp [this]
      · rw [set_listed (by omega), hl.no m (by omega), Bool.false_or]
        simp
        omega

/-- What an operation has done already. -/
noncomputable def idE (ops : Array Oper) (σ : St) (m : Nat) : Eff := ⟨true, true, none, match (ops[m]?).bind (·.dst) with
  | some d => get σ.tm d
  | none => .skip, []⟩
theorem idSt_tm (σ : St) : ∀ m, ((idSt ops σ m).tm.length = σ.tm.length ∧ ∀ t, get (idSt ops σ m).tm t = get σ.tm t) ∧ (idSt ops σ m).sto = σ.sto ∧ (idSt ops σ m).outs = σ.outs
  | 0 => ⟨⟨rfl, fun _ => rfl⟩, rfl, rfl⟩
  | m + 1 => by
    unfold idSt
    split
    · exact idSt_tm σ m
    · obtain ⟨⟨h1, h2⟩, h3⟩ := idSt_tm σ m
      refine ⟨⟨by show (Tm.set _ _ _).length = _; rw [Tm.length_set, h1], fun t => ?_⟩, h3⟩
      show get (Tm.set _ _ _) t = _
      rw [get_set]
      split
      · rename_i e; rw [e.1]
      · exact h2 t
theorem idSt_eq (σ : St) : ∀ m, stD ops (idE ops σ) (fun _ => true) σ m = idSt ops σ m
  | 0 => rfl
  | m + 1 => by
    have ih := idSt_eq σ m
    simp only [stD, idSt, ih]
    cases ho : ops[m]? with
    | none => rfl
    | some o =>
      simp only [Option.bind_some]
      cases hd : o.dst with
      | none => rfl
      | some d =>
        simp only [appEff, idE, ho, Option.bind_some, hd, List.foldl_nil]
        rfl

theorem draw_seg (hP : ProgOK P) (hE : EnvOK P E) {ro : Option Nat} {G : Gh} {σ : St} {a : Act} {w : World} {k : St → Prop} {s N : Nat} (hsN : s ≤ N) (hN : N ≤ ops.size) (h : Rel B w0 S0 G outs σ a w) (hdr : drawOk ops = true)
    (hcut : ∀ i, N ≤ i → i < ops.size → ∀ m, m < N → m ∈ (bef ops).getD i [])
    (hgo : goD P E own path rid ops.size (befores ops.toList []) ops ((ops.toList.take N).drop s) s (fun X => X) (idSt ops σ s) k)
    (hk : ∀ σ' G' a' w' fuel listed, LsUp ops listed N → ops.size - N ≤ fuel → Pres σ σ' → Rel B w0 S0 G' outs σ' a' w' → a'.defers = a.defers → σ'.lps = σ.lps → k σ' → wpAnyIn (Fw ro) 0 P .any ops Q fuel listed a' w') :
    ∀ fuel listed, LsUp ops listed s → ops.size - s ≤ fuel → wpAnyIn (Fw ro) 0 P .any ops Q fuel listed a w := by
  have hO := ordered_of hdr
  rw [← idSt_eq] at hgo
  obtain ⟨es, hbey, hes, hfin⟩ := goD_all hN ((ops.toList.take N).drop s) s (fun X => X) (idE ops σ) rfl hsN hgo (fun X Y h => h)
  have hU : ∀ m om, ops[m]? = some om → UpdD own ops path rid m (clsA ops om) (es m).upd := fun m om hm => by
    by_cases h1 : s ≤ m ∧ m < N
    · exact effD_upd (hes m om h1.1 h1.2 hm).1
    · rw [hbey m (by omega)]; exact .inl rfl
  have key : ∀ (fuel : Nat) (listed : Array Bool) (G : Gh) (a' : Act) (w' : World), (∀ m, N ≤ m → listed.getD m false = false) → (∀ m, m < s → listed.getD m false = true) → listed.size = ops.size → Shut ops (fun m => listed.getD m false) → (∀ m, listed.getD m false = true → (es m).room = true) →
      ((List.range ops.size).filter fun m => !(listed.getD m false)).length ≤ fuel → Rel B w0 S0 G outs (stD ops es (fun m => listed.getD m false) σ ops.size) a' w' → a'.defers = a.defers → wpAnyIn (Fw ro) 0 P .any ops Q fuel listed a' w' := by
    intro fuel
    have allOf : ∀ (listed : Array Bool), listed.size = ops.size → Region.ready .any ops listed = [] → ∀ m, m < ops.size → listed.getD m false = true := by
      intro listed hsz hnil m
      induction m using Nat.strongRecOn with
      | _ m ih =>
        intro hm
        cases hh : listed.getD m false with
        | true => rfl
        | false =>
          have : m ∈ Region.ready .any ops listed := mem_ready.2 ⟨by rw [getD_tf listed m (by omega)]; exact hh, ops[m], Array.getElem?_eq_getElem hm, fun e he hb =>
            have hl := hO.lt m _ (Array.getElem?_eq_getElem hm) e he hb
            ih e.on hl (by omega)⟩
          rw [hnil] at this
          simp at this
    -- the end of the part
    have fin : ∀ (fuel : Nat) (listed : Array Bool) (G : Gh) (a' : Act) (w' : World), (∀ m, N ≤ m → listed.getD m false = false) → listed.size = ops.size → (∀ m, m < N → listed.getD m false = true) → (∀ m, listed.getD m false = true → (es m).room = true) →
        ((List.range ops.size).filter fun m => !(listed.getD m false)).length ≤ fuel → Rel B w0 S0 G outs (stD ops es (fun m => listed.getD m false) σ ops.size) a' w' → a'.defers = a.defers → wpAnyIn (Fw ro) 0 P .any ops Q fuel listed a' w' := by
      intro fuel listed G a' w' hout hsz hall hroom hcount hR hd
      have hst : stD ops es (fun m => listed.getD m false) σ ops.size = stD ops es (fun _ => true) σ N := by
        have e1 : ∀ m, N ≤ m → m ≤ ops.size → stD ops es (fun m => listed.getD m false) σ m = stD ops es (fun m => listed.getD m false) σ N := by
          intro m
          induction m with
          | zero => intro h5 _; have : N = 0 := by omega
                    subst this; rfl
          | succ m ih =>
            intro h5 h6
            by_cases h7 : N = m + 1
            · rw [h7]
            · rw [← ih (by omega) (by omega)]
              simp only [stD]
              split
              · rfl
              · rw [hout m (by omega)]
        rw [e1 _ hN (Nat.le_refl _)]
        exact stD_congr N fun m hm => ⟨rfl, hall m hm⟩
      rw [hst] at hR
      have hcnt := count_ge (p := fun m => !(listed.getD m false)) (N := N) (fun m hm => by simp only [hout m hm]; rfl) ops.size
      exact hk _ G a' w' fuel listed ⟨hsz, hall, hout⟩ (by omega) (stD_pres _) hR hd (stD_lps _) (hfin fun m _ hm => hroom m (hall m hm))
    induction fuel with
    | zero =>
      intro listed G a' w' hout hin hsz hsh hroom hcount hR hd
      refine fin 0 listed G a' w' hout hsz (fun m hm => ?_) hroom hcount hR hd
      cases hh : listed.getD m false with
      | true => rfl
      | false =>
        have : m ∈ (List.range ops.size).filter fun m => !(listed.getD m false) := List.mem_filter.2 ⟨List.mem_range.2 (by omega), by rw [hh]; rfl⟩
        have := List.length_pos_of_mem this
        omega
    | succ fuel ih =>
      intro listed G a' w' hout hin hsz hsh hroom hcount hR hd
      by_cases hall0 : ∀ m, m < N → listed.getD m false = true
      · exact fin _ listed G a' w' hout hsz hall0 hroom hcount hR hd
      refine ⟨fun hnil => absurd (fun m hm => allOf listed hsz hnil m (by omega)) hall0, fun i hi => ?_⟩
      obtain ⟨h0, o, ho, hall⟩ := mem_ready.1 hi
      have hlt := (Array.getElem?_eq_some_iff.1 ho).1
      have hLi : listed.getD i false = false := by rw [← getD_tf listed i (by omega)]; exact h0
      have hsmall := listed_small (ops := ops) hsz
      have hready : Ready ops (fun m => listed.getD m false) i o := ⟨ho, hLi, shut_bef hsh hO i o ho hall hsmall, fun j hj m hm =>
        shut_bef hsh hO j (ops[j]'(hsmall j hj)) (Array.getElem?_eq_getElem (hsmall j hj)) (fun e he hb => hsh j _ hj (Array.getElem?_eq_getElem (hsmall j hj)) e he hb) hsmall m hm⟩
      have hL' : (fun m => (listed.setIfInBounds i true).getD m false) = fun m => listed.getD m false || m == i := by
        funext m
        exact set_listed (by omega) m
      have hiN : i < N := by
        rcases Nat.lt_or_ge i N with h1 | h1
        · exact h1
        · exact absurd (fun m hm => hready.bef m (hcut i h1 hlt m hm)) hall0
      have hsi : s ≤ i := by
        rcases Nat.lt_or_ge i s with h1 | h1
        · rw [hin i h1] at hLi
          cases hLi
        · exact h1
      have next : ∀ (G' : Gh) (a'' : Act) (w'' : World), Rel B w0 S0 G' outs (appEff o.dst (stD ops es (fun m => listed.getD m false) σ ops.size) (es i).val (es i).upd) a'' w'' → a''.defers = a.defers → (es i).room = true → wpAnyIn (Fw ro) 0 P .any ops Q fuel (listed.setIfInBounds i true) a'' w'' := by
        intro G' a'' w'' hR' hd' hrm
        obtain ⟨c1, c2⟩ := commute (es := es) (σ := σ) hready hO hU
        refine ih (listed.setIfInBounds i true) G' a'' w'' (fun m hm => by
          have hm' := congrFun hL' m
          rw [hm', hout m hm, Bool.false_or]
          simp; omega) (fun m hm => by
          have hm' := congrFun hL' m
          rw [hm', hin m hm, Bool.true_or]) (by simpa using hsz) ?_ ?_ ?_ ?_ hd'
        · rw [hL']
          intro j oj hj hoj e he hb
          simp only [Bool.or_eq_true, beq_iff_eq] at hj ⊢
          rcases hj with hj | rfl
          · exact .inl (hsh j oj hj hoj e he hb)
          · rw [ho] at hoj
            simp at hoj; subst hoj
            exact .inl (hall e he hb)
        · intro m hm
          have hm' := congrFun hL' m
          rw [hm'] at hm
          simp only [Bool.or_eq_true, beq_iff_eq] at hm
          rcases hm with hm | rfl
          · exact hroom m hm
          · exact hrm
        · have hf := filter_lt (p := fun m => !(listed.getD m false)) (p' := fun m => !((listed.setIfInBounds i true).getD m false)) (i := i) (fun m hm => by
            have hm' := congrFun hL' m
            simp only [hm', Bool.not_eq_true', Bool.or_eq_false_iff] at hm
            simp [hm.1]) (by simp only [hLi]; rfl) (by
            have hm' := congrFun hL' i
            rw [hm']; simp) (List.range ops.size) (List.mem_range.2 hlt)
          omega
        · rw [hL']
          exact hR'.congr c1 (by rw [stD_outs]; show _ = (stD ops es _ σ ops.size).outs; rw [stD_outs]) c2
      obtain ⟨he, hc, hp⟩ := hes i o hsi hiN ho
      have run : opD P E own (wrOf own path rid) ops (siteOf path rid i) (ev (stD ops es (fun _ => true) σ i).tm) (lkD (wrOf own path rid) path rid ops.size (bef ops) ops i (stD ops es (fun _ => true) σ i).sto) o = some (es i) →
          o.wpIn (Fw ro) 0 P a' w' (wpAnyIn (Fw ro) 0 P .any ops Q fuel (listed.setIfInBounds i true)) Q := fun hopD =>
        have hop := (opD_parts hopD).1
        wpIn_of_wp (fun c e => by simp [opF, oPick, oAlloc, oBox, oLoad, oStore, oFieldAddr, oIndexAddr, oIndex, oField, oBinOp, oUnOp, oConvert, oBuild, oBuildSlice, oExtract, oMakeFunc, oMakeSlice, oSlice, oCall, oMakeMap, oMapUpdate, oLookup, oRange, oSliceToArrayPointer, oNilCheck, oEntry, oBinInt, oBinBool, oBinStr, oBinAgg, oBinSl, oBinNil, oClen, oCappend, oCmax, oCmin, oCvalue, e] at hop) <| opF_sound hP hE hR (ready_op hready hO hU hop) hc hp fun v w'' G' hR' hrm => next G' _ w'' hR' (by rw [put_defers]; exact hd) hrm
      have skip : es i = skipE → (∀ f, o.about P w' a'.eval = some f → (Fw ro).fn f) ∧ wpAnyIn (Fw ro) 0 P .any ops Q fuel (listed.setIfInBounds i true) (a'.put o.dst undef) w' := fun e =>
        ⟨fun _ _ => trivial, next G _ w' (by rw [e]; exact hR.put o.dst (av := .skip) rfl) (by rw [put_defers]; exact hd) (by rw [e]; rfl)⟩
      unfold wpOpIn
      simp only [ho]
      unfold effD at he
      cases hg : o.guard with
      | none =>
        rw [hg] at he
        simp only [Region.wanted, hg, if_true]
        exact run he
      | some gw =>
        obtain ⟨j, want⟩ := gw
        rw [hg] at he
        simp only at he
        split at he
        · simp at he
        · rename_i d hj
          have htd : get (stD ops es (fun m => listed.getD m false) σ ops.size).tm d = get (stD ops es (fun _ => true) σ i).tm d := ready_tm hready hO (List.mem_append_right _ (by rw [hg]; simp [hj]))
          split at he
          · rename_i b hb
            have hy := guard_bool hR hj (htd.trans hb)
            have hwant : Region.wanted o (yielded ops a'.tmps) = (b == want) := by simp [Region.wanted, hg, hy]
            rw [hwant]
            split at he
            · rename_i hbw
              subst hbw
              simp only [beq_self_eq_true, if_true]
              exact run he
            · rename_i hbw
              have : (b == want) = false := by simpa using hbw
              simp only [this, Bool.false_eq_true, if_false]
              exact skip (Option.some.inj he).symm
          · rename_i hb
            have hy := guard_skip hR hj (htd.trans hb)
            have hwant : Region.wanted o (yielded ops a'.tmps) = false := by simp [Region.wanted, hg, hy]
            rw [hwant]
            simp only [Bool.false_eq_true, if_false]
            exact skip (Option.some.inj he).symm
          · simp at he
  intro fuel listed hl hf
  have hst : stD ops es (fun m => listed.getD m false) σ ops.size = idSt ops σ s := by
    have e1 : ∀ m, s ≤ m → m ≤ ops.size → stD ops es (fun m => listed.getD m false) σ m = stD ops es (fun m => listed.getD m false) σ s := by
      intro m
      induction m with
      | zero => intro h5 _; have : s = 0 := by omega
                subst this; rfl
      | succ m ih =>
        intro h5 h6
        by_cases h7 : s = m + 1
        · rw [h7]
        · rw [← ih (by omega) (by omega)]
          simp only [stD]
          split
          · rfl
          · rw [hl.no m (by omega)]
    rw [e1 _ (by omega) (Nat.le_refl _), ← idSt_eq]
    exact stD_congr s fun m hm => ⟨hbey m (.inl hm), hl.yes m hm⟩
  refine key fuel listed G a w (fun m hm => hl.no m (by omega)) hl.yes hl.size (hl.shut hO) (fun m hm => ?_) ?_ ?_ rfl
  · have hms : m < s := by
      rcases Nat.lt_or_ge m s with h3 | h3
      · exact h3
      · rw [hl.no m h3] at hm
        cases hm
    rw [hbey m (.inl hms)]
    rfl
  · have hle : ∀ n, ((List.range n).filter fun m => !(listed.getD m false)).length ≤ n - s := by
      intro n
      induction n with
      | zero => simp
      | succ n ih =>
        rw [List.range_succ, List.filter_append, List.length_append]
        by_cases hn : n < s
        · have : [n].filter (fun m => !(listed.getD m false)) = [] := by rw [List.filter_cons, hl.yes n hn]; rfl
          rw [this, List.length_nil]
          omega
        · have : ([n].filter (fun m => !(listed.getD m false))).length ≤ 1 := List.length_filter_le _ _
          omega
    exact Nat.le_trans (hle _) hf
  · rw [hst]
    obtain ⟨⟨i0, i1⟩, i2, i3⟩ := idSt_tm (ops := ops) σ s
    exact h.congrG i0 i1 i3 (fun p => by rw [i2])

theorem draw_ok (hP : ProgOK P) (hE : EnvOK P E) : DrawOK P E := by
  intro ro B w0 S0 outs G σ a w Q own path rid ops k s N h hdr hsN hN hT hgo hk
  exact draw_seg hP hE hsN hN h hdr (cut_all hT) hgo hk

end
end Go.Pi
end

section
namespace Go.Pi
open Go.RowKit
set_option linter.unusedSimpArgs false
set_option linter.unusedVariables false

section
variable {P : Program} {E : Env}

theorem entry (hP : ProgOK P) (hE : EnvOK P E) {A : Anns} {d f : Nat} {fn : Func} {en : Entry} (hf : P.funcs[f]? = some fn) (hbs : fn.body.isSome = true) (huq : en.uq = false) (hex : en.ex = false) (hcl : en.clo = false) (htot : en.total = true → ∀ x, en.pre x)
    (h : ∀ x, en.pre x → runF P E A d fn en.doms en.cods x fun y => y = en.fn x) (hip : en.ip = none := by rfl) : EntryOK P f en := entry_ok hP hE ⟨draw_ok hP hE, draw_one, draw_end⟩ hf hbs huq hex hcl htot h hip

theorem entryCl (hP : ProgOK P) (hE : EnvOK P E) {A : Anns} {d f : Nat} {fn : Func} {en : Entry} (hf : P.funcs[f]? = some fn) (hbs : fn.body.isSome = true) (huq : en.uq = false) (hex : en.ex = false) (hcl : en.clo = true) (htot : en.total = true → ∀ x, en.pre x)
    (h : ∀ x, en.pre x → runC P E A d fn en.doms en.cods x fun y => y = en.fn x) (hip : en.ip = none := by rfl) : EntryOK P f en := entry_okC hP hE ⟨draw_ok hP hE, draw_one, draw_end⟩ hf hbs huq hex hcl htot h hip

theorem finU_rel {look : Look} {cods : List Ty} {vs : List AV} {K : (tyS cods).D → Prop} (h : finU look cods vs K) :
    (∃ (o ver : Nat) (s : Sch) (xs : List s.D) (y : (tyS cods).D), vs = [.ref o ver] ∧ look o = some (.arr .uniq ver s xs) ∧ encs cods y = [.sl false s xs] ∧ K y ∧ ∀ (S : Cells) (w : World) (v : Value), DR S w (.sl s) xs [v] → TysV S w cods y [v]) ∨
    ∃ (s : Sch) (y : (tyS cods).D), vs = [.nils] ∧ 0 < s.size ∧ encs cods y = [.sl false s []] ∧ K y ∧ ∀ (S : Cells) (w : World) (v : Value), DR S w (.sl s) [] [v] → TysV S w cods y [v] := by
  unfold finU at h
  split at h
  · rename_i s o ver K
    split at h
    · rename_i ver' s' xs hl
      split at h
      · rename_i hv
        subst hv
        split at h
        · rename_i hs
          subst hs
          exact .inl ⟨o, ver, s', xs, xs, rfl, hl, rfl, h, fun S w v hd => ⟨v, rfl, hd⟩⟩
        · exact h.elim
      · exact h.elim
    · exact h.elim
  · rename_i s K
    split at h
    · rename_i hs
      exact .inr ⟨s, [], rfl, hs, rfl, h, fun S w v hd => ⟨v, rfl, hd⟩⟩
    · exact h.elim
  · exact h.elim

theorem entryU (hP : ProgOK P) (hE : EnvOK P E) {A : Anns} {d f : Nat} {fn : Func} {en : Entry} (hf : P.funcs[f]? = some fn) (hbs : fn.body.isSome = true) (hex : en.ex = false) (hcl : en.clo = false) (htot : en.total = true → ∀ x, en.pre x)
    (h : ∀ x, en.pre x → runU P E A d fn en.doms en.cods x fun y => y = en.fn x) (hip : en.ip = none := by rfl) : EntryOK P f en := by
  have hD : DrawOK P E ∧ DrawOne P ∧ DrawEnd P := ⟨draw_ok hP hE, draw_one, draw_end⟩
  cases hb : fn.body with
  | none => simp [hb] at hbs
  | some c =>
    refine ⟨⟨fn, hf, by simp [hb]⟩, htot, (fun q e => by rw [hip] at e; cases e), fun S w args x hS ht hpre _ => ?_⟩
    simp only [argsOf, hcl]
    have hr := h x hpre
    unfold runU at hr
    rw [hb] at hr
    simp only at hr
    refine callsIn_wide.1 (callsIn_of_wp_marks (n := 0) hf hb trivial ?_)
    refine run_sound hP hE hD A (inlN_ok hP hE hD A d) c { B := w.heap.size, w0 := w } {} [] 1 0 _ _ _ _ w _ ysNil hr (first_rx hS ht fn.ntmps) fun e σ' G' a' w0' hp hX' hk' => ?_
    have key : (match results P σ' fn.results.toList with
        | none => False
        | some vs => br vs.1 (finU (fun o => lk o σ'.sto) en.cods vs.2 fun y => y = en.fn x) False) → LeavesInM Fence.wide 0 P fn a'.tmps (fun
      | .returned v, w' => Ret S w en.cods (en.fn x) v w' ∧ (en.uq = true → RetU S w en.cods (en.fn x) v w') ∧ (en.ex = true → ∃ a n, v = .slice a n n)
      | .panicked _, _ => False
      | .outgrown, _ => False) a'.defers .returning w0' := by
      intro hh
      split at hh
      · exact hh.elim
      · rename_i vs hvs
        obtain ⟨hc, hh⟩ := br_no hh
        obtain ⟨F, w1, hR0, hH0⟩ := hX'
        obtain ⟨Es, he, _⟩ := hH0.dfr
        rw [he]
        refine leaves_marks Es ⟨F, w1, hR0, hH0⟩ he fun w' hX2 => ?_
        obtain ⟨hbel, F2, w3, hR', hlow⟩ := hX2.base
        have hle : ∀ b, ¬ F2 b → ¬ (b < w.heap.size) := fun b hn hlt => hn (hlow b hlt)
        obtain ⟨vals, h1, h2, h3⟩ := results_rel hR' hvs hc
        rcases finU_rel hh with ⟨o, ver, s, xs, y, hv, hl, henc, rfl, hty⟩ | ⟨s, y, hv, hpos, henc, rfl, hty⟩
        rotate_left
        · rw [hv] at h2
          cases vals with
          | nil => exact h2.elim
          | cons v r => cases r with
            | cons _ _ => exact h2.2.elim
            | nil =>
              have hv0 : v = .slice none 0 0 := h2.1
              have hsn : ∀ b o, G'.S b o → S b o ∨ w.heap.size ≤ b := fun b o hs => (hR'.snew b o hs).imp id fun hn => Nat.le_of_not_lt (hle b hn)
              have hdr : DR G'.S w' (.sl s) [] [v] := ⟨none, 0, by rw [hv0]; rfl, Nat.le_refl _, by omega, fun h0 => by simp at h0⟩
              exact ⟨v, results_run h1, ⟨hbel, G'.S, hR'.s0, hsn, hR'.slt, [v], hty _ _ _ hdr, rfl⟩, (fun _ => ⟨hbel, G'.S, hR'.s0, hsn, hR'.slt, s, [], none, henc, hpos, ⟨rfl, rfl⟩, ⟨rfl, hv0⟩⟩), fun e => by rw [hex] at e; cases e⟩
        rw [hv] at h2
        cases vals with
        | nil => exact h2.elim
        | cons v r => cases r with
          | cons _ _ => exact h2.2.elim
          | nil =>
            obtain ⟨hlf, m', ver', s', xs', hl', hmf, hle', hrv⟩ := h2.1
            have hl2 : lk o σ'.sto = some (.arr m' ver' s' xs') := hl'
            have hl3 : lk o σ'.sto = some (.arr .uniq ver s xs) := hl
            rw [hl3] at hl2
            simp only [Option.some.injEq, Ob.arr.injEq] at hl2
            obtain ⟨rfl, rfl, rfl, e2⟩ := hl2
            have e3 := eq_of_heq e2
            subst e3
            have hrv := hrv rfl
            obtain ⟨hpos, hA⟩ := hR'.obj o _ hl3
            have hsn : ∀ b o, G'.S b o → S b o ∨ w.heap.size ≤ b := fun b o hs => (hR'.snew b o hs).imp id fun hn => Nat.le_of_not_lt (hle b hn)
            have hA' : ArrR G'.S w' (· < w.heap.size) (G'.M o) .uniq s xs := by
              revert hA
              cases G'.M o with
              | none => exact fun h => h
              | some q => exact fun h => ⟨hle _ h.1, h.2⟩
            refine ⟨v, results_run h1, ?_, fun _ => ⟨hbel, G'.S, hR'.s0, hsn, hR'.slt, s, xs, G'.M o, henc, hpos, hA', hrv⟩, fun e => by rw [hex] at e; cases e⟩
            obtain ⟨G2, hR2, hx⟩ := hR'.frz1 o
            have hl4 : lk o (Pi.frz1 o σ').sto = some (.arr .grow ver s xs) := by
              unfold Pi.frz1
              rw [hl3]
              simp [lk_ups]
            have hv4 : VR0 G2 w' (lks (Pi.frz1 o σ')) (.ref o ver) v := VR0.ext hx h2.1
            obtain ⟨_, m2, ver2, s2, xs2, hl5, _, _, hrv2⟩ := hv4
            have hl6 : lk o (Pi.frz1 o σ').sto = some (.arr m2 ver2 s2 xs2) := hl5
            rw [hl4] at hl6
            simp only [Option.some.injEq, Ob.arr.injEq] at hl6
            obtain ⟨rfl, rfl, rfl, e4⟩ := hl6
            have e5 := eq_of_heq e4
            subst e5
            obtain ⟨_, hA2⟩ := hR2.obj o _ hl4
            exact ⟨hbel, G2.S, hR2.s0, fun b o hs => (hR2.snew b o hs).imp id fun hn => Nat.le_of_not_lt (hle b hn), hR2.slt, [v], hty _ _ _ (hA2.dr (hrv2 rfl)), rfl⟩
    cases e with
    | normal => exact key hk'
    | ret => exact key hk'
    | exit i => exact hk'.elim

theorem finX_rel {cods : List Ty} {vs : List AV} {K : (tyS cods).D → Prop} (h : finX cods vs K) :
    ∃ (s : Sch) (xs : List s.D) (y : (tyS cods).D), vs = [.sl true s xs] ∧ K y ∧ ∀ (S : Cells) (w : World) (v : Value), DR S w (.sl s) xs [v] → TysV S w cods y [v] := by
  unfold finX at h
  split at h
  · rename_i s s' xs K
    split at h
    · rename_i hs
      subst hs
      exact ⟨s', xs, xs, rfl, h, fun S w v hd => ⟨v, rfl, hd⟩⟩
    · exact h.elim
  · exact h.elim

theorem entryX (hP : ProgOK P) (hE : EnvOK P E) {A : Anns} {d f : Nat} {fn : Func} {en : Entry} (hf : P.funcs[f]? = some fn) (hbs : fn.body.isSome = true) (huq : en.uq = false) (hcl : en.clo = false) (htot : en.total = true → ∀ x, en.pre x)
    (h : ∀ x, en.pre x → runX P E A d fn en.doms en.cods x fun y => y = en.fn x) (hip : en.ip = none := by rfl) : EntryOK P f en := by
  have hD : DrawOK P E ∧ DrawOne P ∧ DrawEnd P := ⟨draw_ok hP hE, draw_one, draw_end⟩
  cases hb : fn.body with
  | none => simp [hb] at hbs
  | some c =>
    refine ⟨⟨fn, hf, by simp [hb]⟩, htot, (fun q e => by rw [hip] at e; cases e), fun S w args x hS ht hpre _ => ?_⟩
    simp only [argsOf, hcl]
    have hr := h x hpre
    unfold runX at hr
    rw [hb] at hr
    simp only at hr
    refine callsIn_wide.1 (callsIn_of_wp_marks (n := 0) hf hb trivial ?_)
    refine run_sound hP hE hD A (inlN_ok hP hE hD A d) c { B := w.heap.size, w0 := w } {} [] 1 0 _ _ _ _ w _ ysNil hr (first_rx hS ht fn.ntmps) fun e σ' G' a' w0' hp hX' hk' => ?_
    have key : (match results P σ' fn.results.toList with
        | none => False
        | some vs => br vs.1 (finX en.cods vs.2 fun y => y = en.fn x) False) → LeavesInM Fence.wide 0 P fn a'.tmps (fun
      | .returned v, w' => Ret S w en.cods (en.fn x) v w' ∧ (en.uq = true → RetU S w en.cods (en.fn x) v w') ∧ (en.ex = true → ∃ a n, v = .slice a n n)
      | .panicked _, _ => False
      | .outgrown, _ => False) a'.defers .returning w0' := by
      intro hh
      split at hh
      · exact hh.elim
      · rename_i vs hvs
        obtain ⟨hc, hh⟩ := br_no hh
        obtain ⟨F, w1, hR0, hH0⟩ := hX'
        obtain ⟨Es, he, _⟩ := hH0.dfr
        rw [he]
        refine leaves_marks Es ⟨F, w1, hR0, hH0⟩ he fun w' hX2 => ?_
        obtain ⟨hbel, F2, w3, hR', hlow⟩ := hX2.base
        have hle : ∀ b, ¬ F2 b → ¬ (b < w.heap.size) := fun b hn hlt => hn (hlow b hlt)
        obtain ⟨vals, h1, h2, h3⟩ := results_rel hR' hvs hc
        obtain ⟨s, xs, y, hv, rfl, hty⟩ := finX_rel hh
        rw [hv] at h2
        cases vals with
        | nil => exact h2.elim
        | cons v r => cases r with
          | cons _ _ => exact h2.2.elim
          | nil =>
            obtain ⟨hdr, hx⟩ := h2.1
            obtain ⟨ad, hx⟩ := hx rfl
            refine ⟨v, results_run h1, ?_, (fun e => by rw [huq] at e; cases e), fun _ => ⟨_, _, hx⟩⟩
            exact ⟨hbel, G'.S, hR'.s0, fun b o hs => (hR'.snew b o hs).imp id fun hn => Nat.le_of_not_lt (hle b hn), hR'.slt, [v], hty _ _ _ hdr, rfl⟩
    cases e with
    | normal => exact key hk'
    | ret => exact key hk'
    | exit i => exact hk'.elim

/-- A loop comes to an end: an invariant and a measure. -/
theorem LoopP.intro {V : Type} {step : (V → Prop) → V → Prop} (I : V → Prop) (μ : V → Nat) (hmono : ∀ (p q : V → Prop) v, (∀ v, p v → q v) → step p v → step q v)
    (h : ∀ v, I v → step (fun v' => I v' ∧ μ v' < μ v) v) {v : V} (hv : I v) : LoopP step v := by
  have key : ∀ (n : Nat) (v : V), μ v < n → I v → iter step n v := by
    intro n
    induction n with
    | zero => intro v hlt _; omega
    | succ n ih =>
      intro v hlt hI
      exact hmono _ _ v (fun v' hv' => ih v' (by omega) hv'.1) (h v hI)
  exact ⟨μ v + 1, key _ v (Nat.lt_succ_self _) hv⟩

/-- The same with no word on 'step': the round is shown for whatever comes next. -/
theorem LoopP.of {V : Type} {step : (V → Prop) → V → Prop} (I : V → Prop) (μ : V → Nat)
    (h : ∀ (again : V → Prop) v, I v → (∀ v', I v' → μ v' < μ v → again v') → step again v) {v : V} (hv : I v) : LoopP step v := by
  have key : ∀ (n : Nat) (v : V), μ v < n → I v → iter step n v := by
    intro n
    induction n with
    | zero => intro v hlt _; omega
    | succ n ih =>
      intro v hlt hI
      exact h _ v hI fun v' hI' hlt' => ih v' (by omega) hI'
  exact ⟨μ v + 1, key _ v (Nat.lt_succ_self _) hv⟩

end
end Go.Pi
end

section
namespace Go.Pi
open Go.RowKit
set_option linter.unusedSimpArgs false
set_option linter.unusedVariables false

/-- May an argument be of this type? -/
def rowFields (P : Program) (n : Nat) (f : TypeId → Bool) (total : Nat) : Nat → List Field → Bool
  | o, [] => o == total
  | o, fd :: r => fd.offset == o && f fd.type && (schOf P n fd.type).size == P.cellsOf fd.type && rowFields P n f total (o + P.cellsOf fd.type) r

def tyOk (P : Program) : Nat → TypeId → Bool
  | 0, _ => false
  | n + 1, t => match P.underlying t with
    | some .bool => true
    | some (.int _) => true
    | some .string => true
    | some (.slice e) => tyOk P n e && (schOf P n e).size == P.cellsOf e && decide (0 < P.cellsOf e)
    | some (.array m e) => tyOk P n e && (schOf P n e).size == P.cellsOf e && P.cellsOf t == m * P.cellsOf e
    | some (.struct fs) => rowFields P n (tyOk P n) (P.cellsOf t) 0 fs.toList
    | _ => false

theorem mapM_get {α β : Type} {f : α → Option β} : ∀ {l : List α} {ys : List β}, l.mapM f = some ys → ∀ a ∈ l, ∃ b, f a = some b
  | [], _, _, a, ha => by simp at ha
  | x :: r, ys, h, a, ha => by
    rw [List.mapM_cons] at h
    cases hx : f x with
    | none => simp [hx] at h
    | some b =>
      cases hr : r.mapM f with
      | none => simp [hx, hr] at h
      | some zs =>
        rcases List.mem_cons.1 ha with rfl | ha
        · exact ⟨b, hx⟩
        · exact mapM_get hr a ha

theorem mapM_at {α β : Type} {f : α → Option β} : ∀ {l : List α} {ys : List β}, l.mapM f = some ys → ys.length = l.length ∧ ∀ (i : Nat) (a : α), l[i]? = some a → ∃ b, f a = some b ∧ ys[i]? = some b
  | [], ys, h => by
    simp at h
    subst h
    exact ⟨rfl, fun i a hi => by simp at hi⟩
  | x :: r, ys, h => by
    rw [List.mapM_cons] at h
    cases hx : f x with
    | none => simp [hx] at h
    | some b =>
      cases hr : r.mapM f with
      | none => simp [hx, hr] at h
      | some zs =>
        simp [hx, hr] at h
        subst h
        obtain ⟨h1, h2⟩ := mapM_at hr
        refine ⟨by simp [h1], fun i a hi => ?_⟩
        cases i with
        | zero => simp at hi; subst hi; exact ⟨b, hx, rfl⟩
        | succ i => exact h2 i a (by simpa using hi)

/-- All that lies in memory. -/
def allCells (w : World) : Cells := fun b _ => b < w.heap.size

/-- The numbers are in their ranges. -/
def Sch.rng : (s : Sch) → s.D → Prop
  | .unit, _ => True
  | .int k, n => (Lit.int k n).wf = true
  | .bool, _ => True
  | .str, b => b.size ≤ maxLen
  | .sl s, xs => xs.length ≤ maxLen ∧ ∀ x ∈ xs, s.rng x
  | .pair a b, x => a.rng x.1 ∧ b.rng x.2

def DRR (w : World) (s : Sch) (x : s.D) (vs : List Value) : Prop := DR (allCells w) w s x vs ∧ s.rng x

theorem pick_all {α : Type} {Q : Nat → α → Prop} : ∀ (n : Nat), (∀ i, i < n → ∃ x, Q i x) → ∃ xs : List α, xs.length = n ∧ ∀ (i : Nat) (x : α), xs[i]? = some x → Q i x
  | 0, _ => ⟨[], rfl, fun i x h => by simp at h⟩
  | n + 1, h => by
    obtain ⟨xs, h1, h2⟩ := pick_all n fun i hi => h i (by omega)
    obtain ⟨y, hy⟩ := h n (by omega)
    refine ⟨xs ++ [y], by simp [h1], fun i x hx => ?_⟩
    by_cases hi : i < n
    · rw [List.getElem?_append_left (by omega)] at hx
      exact h2 i x hx
    · rw [List.getElem?_append_right (by omega)] at hx
      have : i - xs.length = 0 := by
        rcases Nat.eq_zero_or_pos (i - xs.length) with e | e
        · exact e
        · rw [List.getElem?_eq_none (by simp; omega)] at hx; cases hx
      rw [this] at hx
      simp at hx
      subst hx
      rw [show i = n by omega]
      exact hy

theorem prods_cons {w : World} {s : Sch} {r : List Sch} {l m : List Value} (h1 : ∃ x, DRR w s x l) (h2 : ∃ x, DRR w (prods r) x m) : ∃ x, DRR w (prods (s :: r)) x (l ++ m) := by
  obtain ⟨x, hx, hxr⟩ := h1
  obtain ⟨y, hy, hyr⟩ := h2
  cases r with
  | nil =>
    have : m = [] := hy
    subst this
    exact ⟨x, by simpa using hx, hxr⟩
  | cons s' r => exact ⟨(x, y), ⟨l, m, rfl, hx, hy⟩, hxr, hyr⟩

section
variable {P : Program} {W : World} {H : Type} {enc : TypeId × Value → H} {sp : Nat → Bool} {held : Bool}

theorem fields_dr {n : Nat} {f : TypeId → Bool} {total : Nat} {cs : List Value} (hl : cs.length = total) : ∀ {fs : List Field} {o : Nat}, rowFields P n f total o fs = true → o ≤ total →
    (∀ fd ∈ fs, f fd.type = true → ∃ x, DRR W (schOf P n fd.type) x ((cs.drop fd.offset).take (P.cellsOf fd.type))) → ∃ x, DRR W (prods (fs.map fun fd => schOf P n fd.type)) x (cs.drop o)
  | [], o, hok, ho, _ => by
    simp [rowFields] at hok
    subst hok
    refine ⟨(), ?_, trivial⟩
    show cs.drop o = []
    rw [← hl]; simp
  | fd :: r, o, hok, ho, h => by
    simp only [rowFields, Bool.and_eq_true, beq_iff_eq] at hok
    obtain ⟨⟨⟨h1, h2⟩, h3⟩, h4⟩ := hok
    obtain ⟨x, hx⟩ := h fd (by simp) h2
    have hlen := hx.1.length
    rw [h3, h1] at hlen
    have hle : o + P.cellsOf fd.type ≤ total := by
      simp [hl] at hlen
      omega
    obtain ⟨y, hy⟩ := fields_dr hl h4 hle fun g hg => h g (.tail _ hg)
    have := prods_cons ⟨x, hx⟩ ⟨y, hy⟩
    rw [h1] at this
    have e : (cs.drop o).take (P.cellsOf fd.type) ++ cs.drop (o + P.cellsOf fd.type) = cs.drop o := by
      rw [← List.drop_drop, List.take_append_drop]
    rw [e] at this
    exact this

theorem array_dr {s : Sch} {k : Nat} {cs : List Value} (hs : s.size = k) : ∀ {m i : Nat}, cs.length = (i + m) * k → (∀ j, i ≤ j → j < i + m → ∃ x, DRR W s x ((cs.drop (j * k)).take k)) →
    ∃ x, DRR W (prods (List.replicate m s)) x (cs.drop (i * k))
  | 0, i, hl, _ => by
    refine ⟨(), ?_, trivial⟩
    show cs.drop (i * k) = []
    simp at hl
    rw [← hl]; simp
  | m + 1, i, hl, h => by
    obtain ⟨x, hx⟩ := h i (Nat.le_refl _) (by omega)
    obtain ⟨y, hy⟩ := array_dr hs (m := m) (i := i + 1) (by rw [hl]; congr 1; omega) fun j h1 h2 => h j (by omega) (by omega)
    have := prods_cons ⟨x, hx⟩ ⟨y, hy⟩
    have e : (cs.drop (i * k)).take k ++ cs.drop ((i + 1) * k) = cs.drop (i * k) := by
      rw [Nat.add_mul, Nat.one_mul, ← List.drop_drop, List.take_append_drop]
    rw [e] at this
    exact this

theorem cell_some {a : Addr} {v : Value} (h : W.cell? a = some v) : a.spot = none ∧ a.block < W.heap.size := by
  unfold World.cell? at h
  split at h
  · rename_i c e f hh
    refine ⟨?_, (Array.getElem?_eq_some_iff.1 hh).1⟩
    cases hs : a.spot with
    | none => rfl
    | some _ => simp [hs] at h
  · cases h

theorem trod_dr : ∀ (n : Nat) (t : TypeId) (fuel : Nat) (cs : List Value) (q : DataW H × List MemPlace), tyOk P n t = true → DataW.trod enc P W 0 sp held fuel t cs = some q → ∃ x, DRR W (schOf P n t) x cs
  | 0, t, fuel, cs, q, hok, h => by simp [tyOk] at hok
  | n + 1, t, 0, cs, q, hok, h => by simp [DataW.trod] at h
  | n + 1, t, fuel + 1, cs, q, hok, h => by
    unfold tyOk at hok
    unfold DataW.trod at h
    cases hu : P.underlying t with
    | none => simp [hu] at hok
    | some d =>
      simp only [hu] at hok h
      have hs : schOf P (n + 1) t = match P.underlying t with
        | some (.int k) => .int k
        | some .bool => .bool
        | some .string => .str
        | some (.slice e) => .sl (schOf P n e)
        | some (.array m e) => prods (List.replicate m (schOf P n e))
        | some (.struct fs) => prods (fs.toList.map fun f => schOf P n f.type)
        | _ => .unit := rfl
      rw [hu] at hs
      rw [hs]
      cases d <;> try (simp at hok; done)
      case bool =>
        split at h <;> first | (exfalso; simp_all; done) | skip
        rename_i b hd
        exact ⟨b, rfl, trivial⟩
      case int k =>
        split at h <;> first | (exfalso; simp_all; done) | skip
        rename_i k1 k2 m hd
        cases hd
        split at h
        · rename_i hk
          obtain ⟨rfl, hwf⟩ := hk
          exact ⟨m, rfl, hwf⟩
        · cases h
      case string =>
        split at h <;> first | (exfalso; simp_all; done) | skip
        rename_i s hd
        split at h
        · rename_i hsz
          exact ⟨s, rfl, hsz⟩
        · cases h
      case slice e =>
        simp only [Bool.and_eq_true, beq_iff_eq, decide_eq_true_eq] at hok
        obtain ⟨⟨hok1, hok2⟩, hok3⟩ := hok
        split at h <;> first | (exfalso; simp_all; done) | skip
        · exact ⟨([] : List _), ⟨none, 0, rfl, Nat.le_refl _, by simp, fun h0 => by simp at h0⟩, by simp [maxLen], fun x hx => by simp at hx⟩
        · rename_i e' a len cap hd
          cases hd
          split at h
          · rename_i hcond
            obtain ⟨_, hle, hmx⟩ := hcond
            cases hel : (List.range len).mapM fun i => (W.cells? 0 (a.add (i * P.cellsOf e)) (P.cellsOf e)).bind (DataW.trod enc P W 0 sp held fuel e) with
            | none => simp [hel] at h
            | some elems =>
              have hget : ∀ i, i < len → ∃ x, ∃ ws, DRR W (schOf P n e) x ws ∧ ∀ (j : Nat) (v : Value), ws[j]? = some v → W.cell? ((a.add (i * P.cellsOf e)).add j) = some v := by
                intro i hi
                obtain ⟨y, hy⟩ := mapM_get hel i (List.mem_range.2 hi)
                cases hcs : W.cells? 0 (a.add (i * P.cellsOf e)) (P.cellsOf e) with
                | none => simp [hcs] at hy
                | some ws =>
                  simp [hcs] at hy
                  obtain ⟨x, hx⟩ := trod_dr n e fuel ws y hok1 hy
                  refine ⟨x, ws, hx, fun j v hv => ?_⟩
                  unfold World.cells? at hcs
                  simp only [Nat.zero_le, if_true] at hcs
                  obtain ⟨hl, hat⟩ := mapM_at hcs
                  have hj : j < P.cellsOf e := by
                    have := (List.getElem?_eq_some_iff.1 hv).1
                    simp at hl
                    omega
                  obtain ⟨b, hb, hb2⟩ := hat j j (by simp [hj])
                  rw [hv] at hb2
                  cases hb2
                  exact hb
              obtain ⟨xs, hxl, hxs⟩ := pick_all len hget
              have hxm : xs.length ≤ cap := by omega
              refine ⟨xs, ⟨some a, cap, by rw [hxl], hxm, by simp only [maxLen] at hmx; omega, fun h0 => ?_⟩, by omega, fun x hx => ?_⟩
              have h00 := hget 0 (by omega)
              obtain ⟨x0, ws0, hx0, hw0⟩ := h00
              have hl0 := hx0.1.length
              have h1 : ∃ v, ws0[0]? = some v := ⟨ws0[0]'(by omega), by simp⟩
              obtain ⟨v0, hv0⟩ := h1
              have hc0 := hw0 0 v0 hv0
              have ha0 : (a.add (0 * P.cellsOf e)).add 0 = a := by simp [Addr.add]
              rw [ha0] at hc0
              obtain ⟨hsp, hblk⟩ := cell_some hc0
              obtain ⟨ab, ao, asp⟩ := a
              simp only at hsp hblk
              subst hsp
              refine ⟨ab, ao, rfl, fun i x hx => ?_⟩
              obtain ⟨ws, hd, hw⟩ := hxs i x hx
              refine ⟨ws, hd.1, fun j v hv => ⟨hblk, ?_⟩⟩
              have := hw j v hv
              rw [addr_add, addr_add] at this
              rw [hok2]
              exact this
              obtain ⟨i, hi⟩ := List.getElem?_of_mem hx
              obtain ⟨ws, hd, _⟩ := hxs i x hi
              exact hd.2
          · cases h
      case array m e =>
        simp only [Bool.and_eq_true, beq_iff_eq] at hok
        obtain ⟨⟨hok1, hok2⟩, hok3⟩ := hok
        split at h <;> first | (exfalso; simp_all; done) | skip
        rename_i cs _ cs1 m' e' hd
        cases hd
        split at h
        · rename_i hlen
          cases hm : (List.range m).mapM fun i => DataW.trod enc P W 0 sp held fuel e ((cs.drop (i * P.cellsOf e)).take (P.cellsOf e)) with
          | none => simp [hm] at h
          | some ys =>
            have := array_dr (W := W) (s := schOf P n e) hok2 (m := m) (i := 0) (cs := cs) (by rw [hlen, hok3]; simp) fun j _ hj => by
              obtain ⟨y, hy⟩ := mapM_get hm j (List.mem_range.2 (by omega))
              exact trod_dr n e fuel _ y hok1 hy
            simpa using this
        · cases h
      case struct fs =>
        split at h <;> first | (exfalso; simp_all; done) | skip
        rename_i cs _ cs1 fs' hd
        cases hd
        split at h
        · rename_i hlen
          cases hm : fs.toList.mapM fun f => DataW.trod enc P W 0 sp held fuel f.type ((cs.drop f.offset).take (P.cellsOf f.type)) with
          | none => simp [hm] at h
          | some ys =>
            have := fields_dr (W := W) hlen hok (Nat.zero_le _) fun fd hfd hty => by
              obtain ⟨y, hy⟩ := mapM_get hm fd hfd
              exact trod_dr n fd.type fuel _ y hty hy
            simpa using this
        · cases h

/-- An argument. -/
theorem trod_tyv {r : Reach} {b0 : Nat} {t : TypeId} {v : Value} {d : DataW H} {ps : List MemPlace} (hok : tyOk P 12 t = true) (hval : Value.okWide P W r b0 t v) (h : DataW.Trod enc P W 0 sp held t v d ps) :
    ∃ x : (sch P t).D, TyV (allCells W) W (isAggT P t, sch P t) x v ∧ (sch P t).rng x := by
  obtain ⟨fuel, hf⟩ := h
  obtain ⟨x, hx, hr⟩ := trod_dr 12 t fuel _ _ hok hf
  refine ⟨x, ?_, hr⟩
  unfold TyV
  unfold isAggT
  unfold tyOk at hok
  cases hu : P.underlying t with
  | none => simp [hu] at hok
  | some u =>
    cases u <;> try (simp [hu] at hok; done)
    case bool =>
      obtain ⟨b, rfl⟩ := Go.WideShapes.okWide_bool hu hval
      exact hx
    case int k =>
      obtain ⟨b, rfl⟩ := Go.WideShapes.okWide_int hu hval
      exact hx
    case string =>
      obtain ⟨b, rfl⟩ := Go.WideShapes.okWide_string hu hval
      exact hx
    case slice e =>
      obtain ⟨a, l, c, rfl⟩ := Go.WideShapes.okWide_slice hu hval
      exact hx
    case array m e =>
      simp only [Value.okWide, hu] at hval
      obtain ⟨cs, rfl, _⟩ := hval
      exact ⟨cs, rfl, hx⟩
    case struct fs =>
      simp only [Value.okWide, hu] at hval
      obtain ⟨cs, rfl, _⟩ := hval
      exact ⟨cs, rfl, hx⟩

def tysOf (P : Program) (ts : List TypeId) : List Ty := ts.map fun t => (isAggT P t, sch P t)

theorem args_ty {r : Reach} {b0 : Nat} : ∀ {ts : List TypeId} {vs : List Value} {ds : List (DataW H)} {ps : List MemPlace}, ts.all (tyOk P 12) = true →
    (∀ (j : Nat) t v, ts[j]? = some t → vs[j]? = some v → Value.okWide P W r b0 t v) → DataW.TrodAll enc P W 0 sp held ts vs ds ps →
    ∃ x : (tyS (tysOf P ts)).D, TysV (allCells W) W (tysOf P ts) x vs ∧ (tyS (tysOf P ts)).rng x
  | [], vs, ds, ps, _, _, h => by
    cases vs <;> cases ds <;> simp [DataW.TrodAll] at h
    exact ⟨(), rfl, trivial⟩
  | t :: ts, vs, ds, ps, hok, hval, h => by
    cases vs with
    | nil => cases ds <;> simp [DataW.TrodAll] at h
    | cons v vs =>
      cases ds with
      | nil => simp [DataW.TrodAll] at h
      | cons d ds =>
        simp only [DataW.TrodAll] at h
        obtain ⟨p, q, h1, h2, _⟩ := h
        simp only [List.all_cons, Bool.and_eq_true] at hok
        obtain ⟨x, hx, hxr⟩ := trod_tyv hok.1 (hval 0 t v rfl rfl) h1
        obtain ⟨y, hy, hyr⟩ := args_ty hok.2 (fun j t' v' e1 e2 => hval (j + 1) t' v' (by simpa using e1) (by simpa using e2)) h2
        cases ts with
        | nil =>
          have : vs = [] := hy
          subst this
          exact ⟨x, ⟨v, rfl, hx⟩, hxr⟩
        | cons t' ts => exact ⟨(x, y), ⟨v, vs, rfl, hx, hy⟩, hxr, hyr⟩

/-- A law: it returns true, and nothing that lay in memory has turned. -/
theorem law_calls {f : Nat} {en : Entry} {ts : List TypeId} {vs : List Value} {ds : List (DataW H)} {ps : List MemPlace} {r : Reach} {b0 : Nat} (hE : EntryOK P f en) (hcl : en.clo = false) (hdoms : en.doms = tysOf P ts)
    (hpre : ∀ x, (tyS en.doms).rng x → en.pre x) (hres : ∀ x S w' us, TysV S w' en.cods (en.fn x) us → us = [.bool true]) (hok : ts.all (tyOk P 12) = true)
    (hval : ∀ (j : Nat) t v, ts[j]? = some t → vs[j]? = some v → Value.okWide P W r b0 t v) (h : DataW.TrodAll enc P W 0 sp held ts vs ds ps) :
    Calls P f vs.toArray W fun e w' => e = .returned (.bool true) ∧ Below W.heap.size W w' := by
  obtain ⟨x, hx, hr⟩ := args_ty hok hval h
  revert hx hr x
  rw [← hdoms]
  intro x hx hr
  have hc := hE.2.2.2 (allCells W) W vs x (fun b o h => h) hx (hpre x hr) (fun e => by rw [hcl] at e; cases e)
  simp only [argsOf, hcl] at hc
  refine hc.mono fun e w' he => ?_
  cases e with
  | returned v =>
    obtain ⟨⟨hb, S', _, _, _, us, hus, rfl⟩, _⟩ := he
    rw [hres _ _ _ _ hus]
    exact ⟨rfl, hb.below⟩
  | panicked _ => exact he.elim
  | outgrown => exact he.elim
end
end Go.Pi
end

section
set_option linter.unusedVariables false
set_option linter.unusedSimpArgs false
namespace Go.Pi
open Go.RowKit
set_option linter.unusedSimpArgs false
set_option linter.unusedVariables false

theorem br_or {p : Prop} [Decidable p] {x : Prop} : br (decide p) x True ↔ (p → x) := by
  by_cases h : p <;> simp [br, h]
theorem br_and {p : Prop} [Decidable p] {x : Prop} : br (decide p) x False ↔ (p ∧ x) := by
  by_cases h : p <;> simp [br, h]
theorem br_dec {p : Prop} [Decidable p] {x y : Prop} : br (decide p) x y ↔ ((p → x) ∧ (¬ p → y)) := by
  by_cases h : p <;> simp [br, h]
theorem br_true_ {b : Bool} {x : Prop} : br b x True ↔ (b = true → x) := by cases b <;> simp [br]
theorem br_false_ {b : Bool} {x : Prop} : br b x False ↔ (b = true ∧ x) := by cases b <;> simp [br]
theorem br_both {b : Bool} {x y : Prop} : br b x y ↔ ((b = true → x) ∧ (b = false → y)) := by cases b <;> simp [br]
theorem br_ite {b : Bool} {x y : Prop} : br b x y ↔ (if b then x else y) := by cases b <;> simp [br]
theorem lenOk_iff {n : Nat} : lenOk n = true ↔ n ≤ 9223372036854775807 := by simp [lenOk]
theorem roomOk_iff {n b : Nat} : roomOk n b = true ↔ n * b ≤ 140737488355328 := by simp [roomOk]

section
variable {P : Program}
theorem EnvOK.nil : EnvOK P [] := fun f en h => by simp [elk] at h
theorem EnvOK.cons {E : Env} {f : Nat} {en : Entry} (h : EntryOK P f en) (hE : EnvOK P E) : EnvOK P ((f, en) :: E) := fun g en' he => by
  simp only [elk] at he
  split at he
  · rename_i e
    subst e
    obtain rfl := Option.some.inj he
    exact h
  · exact hE g en' he
end

structure RunF (P : Program) (E : Env) (A : Anns) (d : Nat) (fn : Func) (doms cods : List Ty) (x : (tyS doms).D) (K : (tyS cods).D → Prop) : Prop where
  out : runF P E A d fn doms cods x K
structure RunU (P : Program) (E : Env) (A : Anns) (d : Nat) (fn : Func) (doms cods : List Ty) (x : (tyS doms).D) (K : (tyS cods).D → Prop) : Prop where
  out : runU P E A d fn doms cods x K
theorem entryF {P : Program} {E : Env} (hP : ProgOK P) (hE : EnvOK P E) {A : Anns} {d f : Nat} {fn : Func} {en : Entry} (hf : P.funcs[f]? = some fn) (hbs : fn.body.isSome = true) (huq : en.uq = false) (hex : en.ex = false) (hcl : en.clo = false) (htot : en.total = true → ∀ x, en.pre x)
    (h : ∀ x, en.pre x → RunF P E A d fn en.doms en.cods x fun y => y = en.fn x) (hip : en.ip = none := by rfl) : EntryOK P f en := entry hP hE hf hbs huq hex hcl htot (fun x hx => (h x hx).out) hip
theorem entryFU {P : Program} {E : Env} (hP : ProgOK P) (hE : EnvOK P E) {A : Anns} {d f : Nat} {fn : Func} {en : Entry} (hf : P.funcs[f]? = some fn) (hbs : fn.body.isSome = true) (hex : en.ex = false) (hcl : en.clo = false) (htot : en.total = true → ∀ x, en.pre x)
    (h : ∀ x, en.pre x → RunU P E A d fn en.doms en.cods x fun y => y = en.fn x) (hip : en.ip = none := by rfl) : EntryOK P f en := entryU hP hE hf hbs hex hcl htot (fun x hx => (h x hx).out) hip

structure RunX (P : Program) (E : Env) (A : Anns) (d : Nat) (fn : Func) (doms cods : List Ty) (x : (tyS doms).D) (K : (tyS cods).D → Prop) : Prop where
  out : runX P E A d fn doms cods x K
theorem entryFX {P : Program} {E : Env} (hP : ProgOK P) (hE : EnvOK P E) {A : Anns} {d f : Nat} {fn : Func} {en : Entry} (hf : P.funcs[f]? = some fn) (hbs : fn.body.isSome = true) (huq : en.uq = false) (hcl : en.clo = false) (htot : en.total = true → ∀ x, en.pre x)
    (h : ∀ x, en.pre x → RunX P E A d fn en.doms en.cods x fun y => y = en.fn x) (hip : en.ip = none := by rfl) : EntryOK P f en := entryX hP hE hf hbs huq hcl htot (fun x hx => (h x hx).out) hip

structure RunC (P : Program) (E : Env) (A : Anns) (d : Nat) (fn : Func) (doms cods : List Ty) (x : (tyS doms).D) (K : (tyS cods).D → Prop) : Prop where
  out : runC P E A d fn doms cods x K
theorem entryFC {P : Program} {E : Env} (hP : ProgOK P) (hE : EnvOK P E) {A : Anns} {d f : Nat} {fn : Func} {en : Entry} (hf : P.funcs[f]? = some fn) (hbs : fn.body.isSome = true) (huq : en.uq = false) (hex : en.ex = false) (hcl : en.clo = true) (htot : en.total = true → ∀ x, en.pre x)
    (h : ∀ x, en.pre x → RunC P E A d fn en.doms en.cods x fun y => y = en.fn x) (hip : en.ip = none := by rfl) : EntryOK P f en := entryCl hP hE hf hbs huq hex hcl htot (fun x hx => (h x hx).out) hip

/-! ### numbers -/
theorem wr {n : Int} (h1 : -9223372036854775808 ≤ n) (h2 : n ≤ 9223372036854775807) : IntKind.i64.wrap n = n := IntWalk.i64_in n ⟨h1, h2⟩

/-! ### numbers modulo 2^64 -/
theorem wrap_def (n : Int) : IntKind.i64.wrap n = (n + 9223372036854775808) % 18446744073709551616 - 9223372036854775808 := by
  rw [IntKind.wrap_i64]
theorem wrap_sub_l (a b : Int) : IntKind.i64.wrap (IntKind.i64.wrap a - b) = IntKind.i64.wrap (a - b) := by simp only [wrap_def]; omega
theorem wrap_sub_r (a b : Int) : IntKind.i64.wrap (a - IntKind.i64.wrap b) = IntKind.i64.wrap (a - b) := by simp only [wrap_def]; omega
theorem wrap_add_l (a b : Int) : IntKind.i64.wrap (IntKind.i64.wrap a + b) = IntKind.i64.wrap (a + b) := by simp only [wrap_def]; omega
theorem wrap_add_r (a b : Int) : IntKind.i64.wrap (a + IntKind.i64.wrap b) = IntKind.i64.wrap (a + b) := by simp only [wrap_def]; omega
theorem wrap_is (a : Int) : ∃ k : Int, IntKind.i64.wrap a = a + k * 18446744073709551616 := by
  refine ⟨-((a + 9223372036854775808) / 18446744073709551616), ?_⟩
  simp only [wrap_def]
  omega
theorem wrap_shift (a k : Int) : IntKind.i64.wrap (a + k * 18446744073709551616) = IntKind.i64.wrap a := by simp only [wrap_def]; omega
theorem wrap_mul_l (a b : Int) : IntKind.i64.wrap (IntKind.i64.wrap a * b) = IntKind.i64.wrap (a * b) := by
  obtain ⟨k, hk⟩ := wrap_is a
  rw [hk, Int.add_mul, show k * 18446744073709551616 * b = k * b * 18446744073709551616 by rw [Int.mul_assoc, Int.mul_assoc, Int.mul_comm b], wrap_shift]
theorem wrap_mul_r (a b : Int) : IntKind.i64.wrap (a * IntKind.i64.wrap b) = IntKind.i64.wrap (a * b) := by
  rw [Int.mul_comm, wrap_mul_l, Int.mul_comm]
theorem wrap_zero : IntKind.i64.wrap 0 = 0 := by simp [wrap_def]

/-- A loop that counts up. -/
theorem LoopP.up {V : Type} {step : ((Int × V) → Prop) → (Int × V) → Prop} (n : Int) (I : Int → V → Prop)
    (h : ∀ (again : (Int × V) → Prop) (i : Int) (v : V), 0 ≤ i → i ≤ n → I i v → (∀ v', i < n → I (i + 1) v' → again (i + 1, v')) → step again (i, v))
    {v : V} (hn : 0 ≤ n) (h0 : I 0 v) : LoopP step (0, v) := by
  refine LoopP.of (fun q => 0 ≤ q.1 ∧ q.1 ≤ n ∧ I q.1 q.2) (fun q => (n - q.1).toNat) (fun again q hq hag => ?_) ⟨Int.le_refl _, hn, h0⟩
  obtain ⟨i, v⟩ := q
  obtain ⟨h1, h2, h3⟩ := hq
  exact h again i v h1 h2 h3 fun v' hlt hI => hag (i + 1, v') ⟨by simp only; omega, by simp only; omega, hI⟩ (by simp only; omega)

/-! ### lists by their places -/
section
variable {α : Type} {l : List α} {d : α} {Q : α → Prop} {p : α → Bool}

theorem getD_lt {i : Nat} (h : i < l.length) : l.getD i d = l[i] := by simp [List.getD_eq_getElem?_getD, List.getElem?_eq_getElem h]

/-- All of the first i, and one more. -/
theorem all_step {i : Int} (h0 : 0 ≤ i) (hi : i < l.length) (h : ∀ x ∈ l.take i.toNat, Q x) (hx : Q (l.getD i.toNat d)) : ∀ x ∈ l.take (i + 1).toNat, Q x := by
  intro x hm
  have hlt : i.toNat < l.length := by omega
  rw [getD_lt hlt] at hx
  rw [show (i + 1).toNat = i.toNat + 1 by omega, List.take_add_one, List.mem_append] at hm
  rcases hm with hm | hm
  · exact h x hm
  · simp [List.getElem?_eq_getElem hlt] at hm
    subst hm
    exact hx
theorem all_done {i : Int} (hi : ¬ i < l.length) (h : ∀ x ∈ l.take i.toNat, Q x) : ∀ x ∈ l, Q x := by
  rwa [List.take_of_length_le (by omega)] at h
theorem all_zero : ∀ x ∈ l.take (0 : Int).toNat, Q x := by simp

theorem split_at {i : Nat} (h : i < l.length) : l = l.take i ++ l.getD i d :: l.drop (i + 1) := by
  rw [getD_lt h, ← List.drop_eq_getElem_cons h, List.take_append_drop]
theorem find_at {i : Int} (h0 : 0 ≤ i) (hi : i < l.length) (h : ∀ x ∈ l.take i.toNat, p x = false) (hx : p (l.getD i.toNat d) = true) : l.find? p = some (l.getD i.toNat d) := by
  have hlt : i.toNat < l.length := by omega
  have e := split_at (d := d) hlt
  generalize l.getD i.toNat d = z at e hx ⊢
  generalize l.take i.toNat = a at e h
  rw [e, List.find?_append, List.find?_eq_none.2 (fun x hm => by simp [h x hm])]
  simp [hx]
theorem findIdx_at {i : Int} (h0 : 0 ≤ i) (hi : i < l.length) (h : ∀ x ∈ l.take i.toNat, p x = false) (hx : p (l.getD i.toNat d) = true) : l.findIdx? p = some i.toNat := by
  have hlt : i.toNat < l.length := by omega
  rw [getD_lt hlt] at hx
  rw [List.findIdx?_eq_some_iff_getElem]
  refine ⟨hlt, hx, fun j hj => ?_⟩
  rw [h _ (List.mem_take_iff_getElem.2 ⟨j, by omega, rfl⟩)]
  simp
theorem find_none (h : ∀ x ∈ l, p x = false) : l.find? p = none := List.find?_eq_none.2 fun x hm => by simp [h x hm]
theorem findIdx_none (h : ∀ x ∈ l, p x = false) : l.findIdx? p = none := by
  rw [List.findIdx?_eq_none_iff]
  exact fun x hm => h x hm
end

/-- A list that is filled from its start. -/
def fillTo {α : Type} (n : Nat) (g : Nat → α) (z : α) (i : Nat) : List α := (List.range n).map fun k => if k < i then g k else z
section
variable {α : Type} {n : Nat} {g : Nat → α} {z : α} {i : Nat}
theorem fillTo_length : (fillTo n g z i).length = n := by simp [fillTo]
theorem fillTo_zero : fillTo n g z 0 = List.replicate n z := by
  apply List.ext_getElem (by simp [fillTo])
  intro j h1 h2
  simp [fillTo]
theorem fillTo_step (hi : i < n) : (fillTo n g z i).set i (g i) = fillTo n g z (i + 1) := by
  apply List.ext_getElem (by simp [fillTo])
  intro j h1 h2
  simp only [fillTo, List.getElem_set, List.getElem_map, List.getElem_range]
  by_cases h : i = j
  · subst h; simp
  · by_cases h3 : j < i
    · simp [h, h3, Nat.lt_succ_of_lt h3]
    · have : ¬ j < i + 1 := by omega
      simp [h, h3, this]
theorem fillTo_getD {k : Nat} (hk : k < n) : (fillTo n g z n).getD k z = g k := by
  simp [fillTo, List.getD_eq_getElem?_getD, hk]
theorem fillTo_all : fillTo n g z n = (List.range n).map g := by
  apply List.ext_getElem (by simp [fillTo])
  intro j h1 h2
  simp only [fillTo, List.length_map, List.length_range] at h1
  simp [fillTo, h1]
end

end Go.Pi
namespace Go.Pi
/-- Loops of four rounds. -/
theorem w4 : IntKind.i64.wrap (0 + 1) = 1 ∧ IntKind.i64.wrap (1 + 1) = 2 ∧ IntKind.i64.wrap (2 + 1) = 3 ∧ IntKind.i64.wrap (3 + 1) = 4 := by decide
theorem loop4 {V : Type} {step : ((Int × V) → Prop) → (Int × V) → Prop} {v : V} (h : ∀ p1 p2 p3 p4 : (Int × V) → Prop,
    (∀ v, step (fun _ => False) (4, v) → p4 (4, v)) → (∀ v, step p4 (3, v) → p3 (3, v)) → (∀ v, step p3 (2, v) → p2 (2, v)) → (∀ v, step p2 (1, v) → p1 (1, v)) → step p1 (0, v)) : LoopP step (0, v) :=
  ⟨5, h _ _ _ _ (fun _ h => h) (fun _ h => h) (fun _ h => h) (fun _ h => h)⟩
end Go.Pi
namespace Go.Pi
theorem br_t {x y : Prop} : br true x y = x := rfl
theorem br_f {x y : Prop} : br false x y = y := rfl
end Go.Pi

namespace Go.Pi
/-- A list that is appended to, one by one. -/
theorem app_step {α : Type} {g : Nat → α} {i : Int} (h0 : 0 ≤ i) : (List.range i.toNat).map g ++ [g i.toNat] = (List.range (i + 1).toNat).map g := by
  rw [show (i + 1).toNat = i.toNat + 1 by omega, List.range_succ, List.map_append]
  rfl

/-- A loop that counts up from some number on. -/
theorem LoopP.upFrom {V : Type} {step : ((Int × V) → Prop) → (Int × V) → Prop} (m n : Int) (I : Int → V → Prop)
    (h : ∀ (again : (Int × V) → Prop) (i : Int) (v : V), m ≤ i → (i ≤ n ∨ i = m) → I i v → (∀ v', i < n → I (i + 1) v' → again (i + 1, v')) → step again (i, v))
    {v : V} (h0 : I m v) : LoopP step (m, v) := by
  refine LoopP.of (fun q => m ≤ q.1 ∧ (q.1 ≤ n ∨ q.1 = m) ∧ I q.1 q.2) (fun q => (n - q.1).toNat) (fun again q hq hag => ?_) ⟨Int.le_refl _, .inr rfl, h0⟩
  obtain ⟨i, v⟩ := q
  obtain ⟨h1, h2, h3⟩ := hq
  exact h again i v h1 h2 h3 fun v' hlt hI => hag (i + 1, v') ⟨by simp only; omega, .inl (by simp only; omega), hI⟩ (by simp only; omega)
end Go.Pi
namespace Go.Pi
/-- A list of which the first ones have been turned. -/
def fill2 {α : Type} (n : Nat) (g h : Nat → α) (i : Nat) : List α := (List.range n).map fun k => if k < i then g k else h k
section
variable {α : Type} {n : Nat} {g h : Nat → α} {z : α} {i : Nat}
theorem fill2_length : (fill2 n g h i).length = n := by simp [fill2]
theorem fill2_zero : fill2 n g h 0 = (List.range n).map h := by simp [fill2]
theorem fill2_all : fill2 n g h n = (List.range n).map g := by
  apply List.ext_getElem (by simp [fill2])
  intro j h1 h2
  simp only [fill2, List.length_map, List.length_range] at h1
  simp [fill2, h1]
theorem fill2_get (hi : i < n) : (fill2 n g h i).getD i z = h i := by
  simp [fill2, List.getD_eq_getElem?_getD, hi]
theorem fill2_step (hi : i < n) : (fill2 n g h i).set i (g i) = fill2 n g h (i + 1) := by
  apply List.ext_getElem (by simp [fill2])
  intro j h1 h2
  simp only [fill2, List.getElem_set, List.getElem_map, List.getElem_range]
  by_cases e : i = j
  · subst e; simp
  · by_cases h3 : j < i
    · simp [e, h3, Nat.lt_succ_of_lt h3]
    · have : ¬ j < i + 1 := by omega
      simp [e, h3, this]
theorem range_getD {k : Nat} (hk : k < n) : ((List.range n).map g).getD k z = g k := by
  simp [List.getD_eq_getElem?_getD, hk]
end

/-- The first error. -/
def firstErr {α : Type} (f : α → Int) (l : List α) : Int := match l.find? (fun x => f x != 0) with
  | some x => f x
  | none => 0
theorem firstErr_nil {α : Type} {f : α → Int} : firstErr f [] = 0 := rfl
theorem firstErr_snoc {α : Type} {f : α → Int} {l : List α} {x : α} : firstErr f (l ++ [x]) = if firstErr f l ≠ 0 then firstErr f l else f x := by
  unfold firstErr
  rw [List.find?_append]
  cases h : l.find? (fun x => f x != 0) with
  | some y =>
    have := List.find?_some h
    simp only [bne_iff_ne, ne_eq] at this
    simp [this]
  | none =>
    by_cases hx : f x = 0
    · simp [hx]
    · simp [hx]
theorem firstErr_take {α : Type} {f : α → Int} {l : List α} {d : α} {i : Int} (h0 : 0 ≤ i) (hi : i < l.length) :
    firstErr f (l.take (i + 1).toNat) = if firstErr f (l.take i.toNat) ≠ 0 then firstErr f (l.take i.toNat) else f (l.getD i.toNat d) := by
  have hlt : i.toNat < l.length := by omega
  rw [show (i + 1).toNat = i.toNat + 1 by omega, List.take_add_one, List.getElem?_eq_getElem hlt, getD_lt hlt]
  exact firstErr_snoc
theorem firstErr_zero {α : Type} {f : α → Int} {l : List α} (h : firstErr f l = 0) : ∀ x ∈ l, f x = 0 := by
  unfold firstErr at h
  split at h
  · rename_i x hx
    have := List.find?_some hx
    simp only [bne_iff_ne, ne_eq] at this
    exact absurd h this
  · rename_i hn
    intro x hx
    have := List.find?_eq_none.1 hn x hx
    simpa using this
theorem firstErr_at {α : Type} {f : α → Int} {l : List α} {d : α} {i : Int} (h0 : 0 ≤ i) (hi : i < l.length) (h : ∀ x ∈ l.take i.toNat, (f x != 0) = false) (hx : (f (l.getD i.toNat d) != 0) = true) : firstErr f l = f (l.getD i.toNat d) := by
  unfold firstErr
  rw [find_at (d := d) h0 hi h hx]
theorem firstErr_none {α : Type} {f : α → Int} {l : List α} (h : ∀ x ∈ l, (f x != 0) = false) : firstErr f l = 0 := by
  unfold firstErr
  rw [find_none h]
end Go.Pi
end

section
namespace Go.Pi
theorem joinQ_ret {V : Type} (v : V) (B : V → Prop) : JoinQ (fun G => G v) B = B v := propext ⟨fun h => h.out, fun h => ⟨h⟩⟩
theorem JoinQ.use {V : Type} {A : (V → Prop) → Prop} {B : V → Prop} (I : V → Prop) (hA : ∀ G : V → Prop, (∀ v, I v → G v) → A G) (hB : ∀ v, I v → B v) : JoinQ A B := ⟨hA B hB⟩
theorem JoinQ.use0 {A : (Unit → Prop) → Prop} {B : Unit → Prop} (I : Prop) (hA : ∀ G : Unit → Prop, (I → G ()) → A G) (hB : I → B ()) : JoinQ A B := ⟨hA B hB⟩
/-- A loop that counts up, with its counter in the second place. -/
theorem LoopP.up2 {U V : Type} {step : ((U × Int × V) → Prop) → (U × Int × V) → Prop} (n : Int) (I : Int → U → V → Prop)
    (h : ∀ (again : (U × Int × V) → Prop) (u : U) (i : Int) (v : V), 0 ≤ i → i ≤ n → I i u v → (∀ u' v', i < n → I (i + 1) u' v' → again (u', i + 1, v')) → step again (u, i, v))
    {u : U} {v : V} (hn : 0 ≤ n) (h0 : I 0 u v) : LoopP step (u, 0, v) := by
  refine LoopP.of (fun q => 0 ≤ q.2.1 ∧ q.2.1 ≤ n ∧ I q.2.1 q.1 q.2.2) (fun q => (n - q.2.1).toNat) (fun again q hq hag => ?_) ⟨Int.le_refl _, hn, h0⟩
  obtain ⟨u, i, v⟩ := q
  obtain ⟨h1, h2, h3⟩ := hq
  simp only at h1 h2 h3 hag
  exact h again u i v h1 h2 h3 fun u' v' hlt hI => hag (u', i + 1, v') ⟨by simp only; omega, by simp only; omega, hI⟩ (by simp only; omega)
/-- A loop that counts up, with its counter in the third place. -/
theorem LoopP.up3 {U W V : Type} {step : ((U × W × Int × V) → Prop) → (U × W × Int × V) → Prop} (n : Int) (I : Int → U → W → V → Prop)
    (h : ∀ (again : (U × W × Int × V) → Prop) (u : U) (w : W) (i : Int) (v : V), 0 ≤ i → i ≤ n → I i u w v → (∀ u' w' v', i < n → I (i + 1) u' w' v' → again (u', w', i + 1, v')) → step again (u, w, i, v))
    {u : U} {w : W} {v : V} (hn : 0 ≤ n) (h0 : I 0 u w v) : LoopP step (u, w, 0, v) := by
  refine LoopP.of (fun q => 0 ≤ q.2.2.1 ∧ q.2.2.1 ≤ n ∧ I q.2.2.1 q.1 q.2.1 q.2.2.2) (fun q => (n - q.2.2.1).toNat) (fun again q hq hag => ?_) ⟨Int.le_refl _, hn, h0⟩
  obtain ⟨u, w, i, v⟩ := q
  obtain ⟨h1, h2, h3⟩ := hq
  simp only at h1 h2 h3 hag
  exact h again u w i v h1 h2 h3 fun u' w' v' hlt hI => hag (u', w', i + 1, v') ⟨by simp only; omega, by simp only; omega, hI⟩ (by simp only; omega)
/-- A loop that counts up from some number on, with its counter in the second place. -/
theorem LoopP.upFrom2 {U V : Type} {step : ((U × Int × V) → Prop) → (U × Int × V) → Prop} (m n : Int) (I : Int → U → V → Prop)
    (h : ∀ (again : (U × Int × V) → Prop) (u : U) (i : Int) (v : V), m ≤ i → (i ≤ n ∨ i = m) → I i u v → (∀ u' v', i < n → I (i + 1) u' v' → again (u', i + 1, v')) → step again (u, i, v))
    {u : U} {v : V} (h0 : I m u v) : LoopP step (u, m, v) := by
  refine LoopP.of (fun q => m ≤ q.2.1 ∧ (q.2.1 ≤ n ∨ q.2.1 = m) ∧ I q.2.1 q.1 q.2.2) (fun q => (n - q.2.1).toNat) (fun again q hq hag => ?_) ⟨Int.le_refl _, .inr rfl, h0⟩
  obtain ⟨u, i, v⟩ := q
  obtain ⟨h1, h2, h3⟩ := hq
  simp only at h1 h2 h3 hag
  exact h again u i v h1 h2 h3 fun u' v' hlt hI => hag (u', i + 1, v') ⟨by simp only; omega, .inl (by simp only; omega), hI⟩ (by simp only; omega)
end Go.Pi
end

section
namespace Go.Pi
open Go.RowKit Go.Sort Go.Shelf Go.Proofs
set_option linter.unusedSimpArgs false
set_option linter.unusedVariables false

/-- Kinds of data that lie in their own cells alone. -/
def Sch.alone : Sch → Bool
  | .sl _ => false
  | .pair a b => a.alone && b.alone
  | _ => true
def Sch.vals : (s : Sch) → s.D → List Value
  | .unit, _ => []
  | .int k, n => [.int k n]
  | .bool, b => [.bool b]
  | .str, b => [.string b]
  | .sl _, _ => []
  | .pair a b, x => a.vals x.1 ++ b.vals x.2

theorem dr_flat {S : Cells} {w : World} : ∀ {s : Sch} {x : s.D} {vs : List Value}, s.alone = true → (DR S w s x vs ↔ vs = s.vals x)
  | .unit, _, _, _ => Iff.rfl
  | .int _, _, _, _ => Iff.rfl
  | .bool, _, _, _ => Iff.rfl
  | .str, _, _, _ => Iff.rfl
  | .sl _, _, _, h => by cases h
  | .pair a b, x, vs, h => by
    simp only [Sch.alone, Bool.and_eq_true] at h
    constructor
    · rintro ⟨l, r, rfl, hl, hr⟩
      rw [(dr_flat h.1).1 hl, (dr_flat h.2).1 hr]; rfl
    · rintro rfl
      exact ⟨_, _, rfl, (dr_flat h.1).2 rfl, (dr_flat h.2).2 rfl⟩
theorem vals_length : ∀ {s : Sch} (x : s.D), s.alone = true → (s.vals x).length = s.size := fun {s} x h => (((dr_flat (S := fun _ _ => False) (w := default) (s := s) (x := x) h).2 rfl).length)
theorem vals_oneCell : ∀ {s : Sch} (x : s.D), s.alone = true → ∀ v ∈ s.vals x, v.oneCell' = true
  | .unit, _, _ => fun v hv => by cases hv
  | .int _, _, _ => fun v hv => by simp [Sch.vals] at hv; subst hv; rfl
  | .bool, _, _ => fun v hv => by simp [Sch.vals] at hv; subst hv; rfl
  | .str, _, _ => fun v hv => by simp [Sch.vals] at hv; subst hv; rfl
  | .sl _, _, h => by cases h
  | .pair a b, x, h => fun v hv => by
    simp only [Sch.alone, Bool.and_eq_true] at h
    rcases List.mem_append.1 hv with hv | hv
    · exact vals_oneCell x.1 h.1 v hv
    · exact vals_oneCell x.2 h.2 v hv

/-- A world that only grew. -/
theorem grow_of_bel {w w' : World} (h : Bel (· < w.heap.size) w w') : ∃ q os, w' = grow (w.drewN q) os := by
  refine ⟨w'.drawn - w.drawn, w'.heap.extract w.heap.size w'.heap.size, ?_⟩
  have h4 := h.size
  have h5 := h.block
  have h6 := h.dr
  have hh : w'.heap = w.heap ++ w'.heap.extract w.heap.size w'.heap.size := by
    apply Array.ext_getElem?
    intro k
    rw [Array.getElem?_append]
    split
    · rename_i hk; exact h5 k hk
    · rename_i hk
      rw [Array.getElem?_extract]
      split
      · rename_i h7
        congr 1
        omega
      · rename_i h7
        exact Array.getElem?_eq_none (by omega)
  have hd : w'.drawn = w.drawn + (w'.drawn - w.drawn) := by omega
  obtain ⟨hp, tp, dr, os, out⟩ := w'
  have h1 : os = w.os := h.os
  have h2 : tp = w.tape := h.tape
  have h3 : out = w.output := h.output
  subst h1 h2 h3
  simp only at hh hd
  unfold grow World.drewN
  simp only [World.mk.injEq, true_and, and_true]
  exact ⟨hh, hd⟩

/-- A function of two values of one kind that returns a number. -/
theorem cmp_of_entry {P : Program} {g : Nat} {s : Sch} (hs : s.alone = true) {pre : s.D × s.D → Prop} {fn : s.D × s.D → Int} {tot : Bool} (h : EntryOK P g { doms := [(true, s), (true, s)], cods := [(false, .int .i64)], pre := pre, fn := fn, uq := false, total := tot })
    (x y : s.D) (hp : pre (x, y)) (w : World) : Calls P g #[.agg (s.vals x).toArray, .agg (s.vals y).toArray] w fun e w' => e = .returned (.int .i64 (fn (x, y))) ∧ ∃ q os', w' = grow (w.drewN q) os' := by
  have hc := h.2.2.2 (fun _ _ => False) w [.agg (s.vals x).toArray, .agg (s.vals y).toArray] (x, y) (fun _ _ h => h.elim)
    ⟨_, _, rfl, ⟨_, rfl, (dr_flat hs).2 (by simp)⟩, ⟨_, rfl, ⟨_, rfl, (dr_flat hs).2 (by simp)⟩⟩⟩ hp (fun e => by cases e)
  refine hc.mono fun e w' he => ?_
  cases e with
  | panicked _ => exact he.elim
  | outgrown => exact he.elim
  | returned v =>
    obtain ⟨⟨hb, S', _, _, _, vs, hv, rfl⟩, _⟩ := he
    obtain ⟨v, rfl, hv⟩ := hv
    have hv : [v] = [.int .i64 (fn (x, y))] := hv
    simp only [List.cons.injEq, and_true] at hv
    subst hv
    exact ⟨rfl, grow_of_bel hb⟩

theorem getBang {α : Type} [Inhabited α] {l : List α} {i : Nat} {x : α} (h : l[i]? = some x) : l.toArray[i]! = x := by
  simp [h]

theorem ipOK_sort {P : Program} {ρ : Ren} (L : SlLaysF0.n6 P ρ) {q : Ip} (hal : q.s.alone = true) (aE : ∀ w, (Go.isAgg (ρ.t 24)).run P w = .ok true w) (zE : ∀ w, (Go.sizeOf (ρ.t 24)).run P w = .ok q.s.size w)
    (eg : ∀ args w, (callFunc q.g args).run P w = .ok (.enter q.g args) w) {valid : q.s.D → Prop} {cf : q.s.D → q.s.D → Int}
    (hcmp : ∀ x y, valid x → valid y → ∀ w, Calls P q.g #[.agg (q.s.vals x).toArray, .agg (q.s.vals y).toArray] w fun e w' => e = .returned (.int .i64 (cf x y)) ∧ ∃ m os', w' = grow (w.drewN m) os')
    (hO : SWO (ltOf fun x y : { x : q.s.D // valid x } => cf x.1 y.1))
    (hpre : ∀ xs, q.pre xs → xs.length < 4611686018427387904 ∧ ∀ x ∈ xs, valid x)
    (hfn : ∀ xs ys, q.pre xs → ys.Perm xs → ys.Pairwise (fun a b => ¬ cf b a < 0) → ys = q.fn xs) : IpOK P (ρ.f 6) q := by
  intro S w B mo xs v hS hA hpos hrv hp
  obtain ⟨hlen, hval⟩ := hpre xs hp
  have hnil : xs = [] → q.fn xs = [] := fun e => (hfn xs [] hp (by rw [e]) List.Pairwise.nil).symm
  cases mo with
  | none =>
    obtain ⟨h0, hm⟩ := hA
    obtain ⟨_, hv⟩ := hrv
    have e1 : q.fn xs = [] := hnil h0
    rw [hv]
    refine (AnyF.slices_SortFunc_none L none 0 (.func (.func q.g) #[] #[]) w).mono fun e w' he => ?_
    obtain ⟨rfl, rfl⟩ := he
    exact ⟨Bel.refl _ _, ⟨e1, hm⟩, by rw [e1, h0]⟩
  | some bc =>
    obtain ⟨b, cap⟩ := bc
    have hrv : v = .slice (some ⟨b, 0, none⟩) xs.length cap := hrv
    obtain ⟨hB, vs, ty, hh, hsz, hle, hmx, hf, hel, hS1, hS2⟩ := hA
    have hb : b < w.heap.size := by
      rcases Nat.lt_or_ge b w.heap.size with h | h
      · exact h
      · rw [Array.getElem?_eq_none h] at hh; cases hh
    by_cases h0 : xs = []
    · have e1 : q.fn xs = [] := hnil h0
      rw [hrv]
      subst h0
      refine (AnyF.slices_SortFunc_none L (some ⟨b, 0, none⟩) cap (.func (.func q.g) #[] #[]) w).mono fun e w' he => ?_
      obtain ⟨rfl, rfl⟩ := he
      exact ⟨Bel.refl _ _, ⟨hB, vs, ty, hh, hsz, by rw [e1]; simp, hmx, fun k e => (by cases e), fun i x hx => (by rw [e1] at hx; simp at hx), fun off hs => (by have := (hS1 off hs).1; cases this), fun e => by cases e⟩, by rw [e1]⟩
    · obtain ⟨x0, xs0, e0⟩ := List.exists_cons_of_ne_nil h0
      have hx0 : valid x0 := hval x0 (by rw [e0]; simp)
      letI : Inhabited { x : q.s.D // valid x } := ⟨⟨x0, hx0⟩⟩
      obtain ⟨d, hd⟩ : ∃ d : List { x : q.s.D // valid x }, d.map (·.1) = xs := ⟨xs.pmap (fun x h => ⟨x, h⟩) hval, by simp [List.map_pmap]⟩
      have hdl : d.length = xs.length := by rw [← hd]; simp
      have hk : ∀ x : { x : q.s.D // valid x }, (q.s.vals x.1).length = q.s.size := fun x => vals_length x.1 hal
      have hget : ∀ (i : Nat) (y : { x : q.s.D // valid x }), d[i]? = some y → xs[i]? = some y.1 := fun i y h => by rw [← hd]; simp [h]
      have hH : HoldsK (fun x : { x : q.s.D // valid x } => q.s.vals x.1) q.s.size w b 0 d.toArray := by
        intro t ht
        rw [size_flatK] at ht
        have ht : t < d.length * q.s.size := by simpa using ht
        have hi : t / q.s.size < d.length := Nat.div_lt_of_lt_mul (by rw [Nat.mul_comm]; exact ht)
        have hj : t % q.s.size < q.s.size := Nat.mod_lt _ hpos
        have hdi : d[t / q.s.size]? = some d[t / q.s.size] := List.getElem?_eq_getElem hi
        obtain ⟨ws, hdr, hw⟩ := hel _ _ (hget _ _ hdi)
        have hws := (dr_flat hal).1 hdr
        subst hws
        have hlt : t % q.s.size < (q.s.vals d[t / q.s.size].1).length := by rw [hk]; exact hj
        have h1 := hw (t % q.s.size) _ (List.getElem?_eq_getElem hlt)
        rw [Nat.mul_comm, Nat.div_add_mod] at h1
        rw [get_flatK _ _ _ _ (by simpa using ht), getBang hdi, Nat.zero_add]
        refine ⟨?_, ?_⟩
        · rw [cell_of_block hh, h1]
          simp [List.getElem?_eq_getElem hlt]
        · simp [World.frozen?, hh]
      have hsz' : d.toArray.size = xs.length := by simpa using hdl
      have hC := AnyQ.slices_SortFunc (α := { x : q.s.D // valid x }) L q.s.size aE zE (fun x => q.s.vals x.1) hk (fun x => vals_oneCell x.1 hal) (fun x y => cf x.1 y.1) hO q.g #[] b 0 cap d.toArray w eg
        (fun m os dk _ x y => hcmp x.1 y.1 x.2 y.2 _) hH hb (by rw [hsz']; exact hlen)
      rw [hsz', ← hrv] at hC
      refine hC.mono fun e w' he => ?_
      obtain ⟨rfl, d', n, os, hperm, hsort, rfl⟩ := he
      obtain ⟨hps, _, hpp⟩ := hperm
      have hps : d'.size = xs.length := hps.trans hsz'
      have hpp2 : d'.toList.Perm d := by
        have e1 : (d'.extract 0 xs.length) = d' := by rw [← hps]; simp
        have e2 : (d.toArray.extract 0 xs.length) = d.toArray := by rw [← hdl]; simp
        rw [e1, e2] at hpp
        simpa using hpp
      have hys : d'.toList.map (·.1) = q.fn xs := by
        refine hfn xs _ hp (by rw [← hd]; exact hpp2.map _) ?_
        rw [List.pairwise_map, List.pairwise_iff_getElem]
        intro i j hi hj hij
        have hi' : i < d'.size := by simpa using hi
        have hj' : j < d'.size := by simpa using hj
        have h2 := hsort i j (Nat.zero_le _) hij (by rw [← hps]; exact hj')
        rw [getElem!_pos d' j hj', getElem!_pos d' i hi'] at h2
        simpa [ltOf] using h2
      have hlen' : (q.fn xs).length = xs.length := by rw [← hys]; simpa using hps
      refine ⟨⟨rfl, rfl, rfl, ?_, fun k hkk => ?_, ?_⟩, ⟨hB, putCells id 0 (flatK (fun x : { x : q.s.D // valid x } => q.s.vals x.1) q.s.size d') vs, ty, ?_, ?_, ?_, hmx, fun k e => (by cases e), fun i x hx => ?_, fun off hs => (by have := (hS1 off hs).1; cases this), fun e => by cases e⟩, hlen'⟩
      · simp [sortWorldK, putRowK, putRow, mapBlock, grow, Sort.ahead]
      · have hne : b ≠ k := fun e => hkk.2 b cap rfl e.symm
        unfold sortWorldK
        rw [heap_grow_old _ _ (by simp [putRowK, putRow, mapBlock, Sort.ahead]; exact hkk.1)]
        simp [putRowK, putRow, mapBlock, Sort.ahead, Array.getElem?_modify, hne]
      · show w.drawn ≤ w.drawn + n
        omega
      · unfold sortWorldK
        rw [heap_grow_old _ _ (by simp [putRowK, putRow, mapBlock, Sort.ahead]; exact hb)]
        simp [putRowK, putRow, mapBlock, Sort.ahead, Array.getElem?_modify, hh, onCells]
      · simp [putCells]; exact hsz
      · rw [hlen']; exact hle
      · rw [← hys] at hx
        rw [List.getElem?_map] at hx
        cases hy : d'.toList[i]? with
        | none => rw [hy] at hx; simp at hx
        | some y =>
          rw [hy] at hx
          simp only [Option.map_some, Option.some.injEq] at hx
          subst hx
          refine ⟨_, (dr_flat hal).2 rfl, fun j u hu => ?_⟩
          have hj : j < q.s.size := by rw [← hk y]; exact (List.getElem?_eq_some_iff.1 hu).1
          have hi : i < d'.size := by have := (List.getElem?_eq_some_iff.1 hy).1; simpa using this
          have hij : i * q.s.size + j < d'.size * q.s.size := by
            have := Nat.mul_le_mul_right q.s.size (show i + 1 ≤ d'.size from hi)
            rw [Nat.add_mul, Nat.one_mul] at this
            omega
          have hcap : i * q.s.size + j < vs.size := by
            rw [hsz]
            exact Nat.lt_of_lt_of_le hij (Nat.mul_le_mul_right _ (by rw [hps]; exact hle))
          have e1 : (i * q.s.size + j) / q.s.size = i := (blk_iff q.s.size i _ (by omega)).1 ⟨by omega, by omega⟩
          have e2 : (i * q.s.size + j) % q.s.size = j := by rw [Nat.mod_eq_sub_div_mul, e1]; omega
          have e3 : d'[i]! = y := by
            rw [getElem!_pos d' i hi]
            have := (List.getElem?_eq_some_iff.1 hy).2
            simpa using this
          simp only [putCells, Array.getElem?_mapIdx, Array.getElem?_eq_getElem hcap, Option.map_some, size_flatK]
          rw [if_pos ⟨Nat.zero_le _, by omega⟩, Nat.sub_zero, get_flatK _ _ _ _ hij, e1, e2, e3]
          have := List.getElem?_eq_some_iff.1 hu
          simp [hu]
end Go.Pi
end
