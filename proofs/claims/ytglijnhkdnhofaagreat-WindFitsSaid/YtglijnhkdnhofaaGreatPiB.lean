/- Typed data in the machine's memory, an evaluator of loaded code over it, and its proof, part 2. -/
import Derived.Test.YtglijnhkdnhofaaGreatPiA
import Derived.Laws.Cover3
import Derived.Laws.Entries
import Derived.Laws.StructEq
import Derived.Laws.OwnMore
import Derived.Room.AppendAny
import Derived.WideKeyRuns
import Derived.RangeFuncRecord
import Derived.RangeFuncNested
import Derived.WideMake

section
namespace Go.Pi
open Go.RowKit
set_option linter.unusedSimpArgs false
set_option linter.unusedVariables false

section
variable {P : Program} {B : Nat → Prop} {w0 : World} {S0 : Cells} {G : Gh} {outs : Outs} {σ : St} {a : Act} {w : World} {o : Oper}

/-- A step that only computes: the machine's own operation, told for each world. -/
theorem op_pure (h : Rel B w0 S0 G outs σ a w) {c : Bool} {p : Option Prop} {av : AV} {v : Value} (hv : VR G w (lks σ) av v) (hd : (execOp a.eval o).run P w = .ok (.value v) w) : OpOK P B w0 S0 outs σ a w o ⟨c, true, p, av, []⟩ :=
  OpOK.of_value h hv (.inl hd)

theorem part_run {t : TypeId} {cs : Array Value} {off : Nat} (hok : okT P t = true) (hfit : off + szOf P t ≤ cs.size) :
    (part t cs off).run P w = .ok (if isAggT P t then .agg (((cs.toList.drop off).take (szOf P t)).toArray) else ((cs.toList.drop off).take (szOf P t)).headD Go.undef) w := by
  obtain ⟨h1, h2, h3⟩ := okT_parts hok
  unfold part
  rw [Sem.run_bind, isAgg_run h1 w, Result.andThen_ok]
  cases hag : isAggT P t with
  | true =>
    simp only [if_true, Sem.run_bind, size_run h3 w, Result.andThen_ok, Sem.run_pure]
    congr 2
    apply Array.ext'
    simp [Array.toList_extract, List.extract]
  | false =>
    have h4 := h2 hag
    have h5 : off < cs.size := by omega
    simp [h4, h5, Array.getElem?_eq_getElem h5, List.take_one, List.headD]

theorem op_field (h : Rel B w0 S0 G outs σ a w) {t : TypeId} {x : Operand} {f : Nat} (ho : o.op = .field t x f) {fs : Array Field} (hu : P.underlying t = some (.struct fs)) {fd : Field} (hf : fs[f]? = some fd)
    {cs : List AV} (hx : ev σ.tm x = .agg cs) (hok : okT P fd.type = true) (hfit : fd.offset + szOf P fd.type ≤ cs.length) {e : Eff} (he : one (wrapAgg (isAggT P fd.type) ((cs.drop fd.offset).take (szOf P fd.type))) = some e) : OpOK P B w0 S0 outs σ a w o e := by
  rw [one_eq he]
  have hv := ev_rel h x
  rw [hx] at hv
  obtain ⟨vs, hv, ha⟩ := hv
  have hl := ha.length
  have hsz : fd.offset + szOf P fd.type ≤ vs.size := by simp at hl; omega
  have hseg := (ha.drop fd.offset).take (szOf P fd.type)
  refine op_pure h (wrapAgg_rel (ag := isAggT P fd.type) ?_ hseg) ?_
  · cases hag : isAggT P fd.type with
    | true => exact .inr rfl
    | false =>
      refine .inl ?_
      rw [List.length_take, List.length_drop, (okT_parts hok).2.1 hag]
      have := (okT_parts hok).2.1 hag
      omega
  · unfold execOp
    simp only [ho, hv, Instr.field, asAgg, Sem.run_bind, run_underlying hu w, Result.andThen_ok, hf, Sem.run_pure, part_run hok hsz]

theorem op_extract (h : Rel B w0 S0 G outs σ a w) {x : Operand} {i : Nat} (ho : o.op = .extract x i) {vs : List AV} (hx : ev σ.tm x = .tup vs) (hi : i < vs.length) {e : Eff} (he : one (vs.getD i .undef) = some e) : OpOK P B w0 S0 outs σ a w o e := by
  rw [one_eq he]
  have hv := ev_rel h x
  rw [hx] at hv
  obtain ⟨ws, hv, ha⟩ := hv
  obtain ⟨u, hu, hr⟩ := ha.get i _ (getD_of_lt hi .undef)
  have hr' : VR G w (lks σ) (vs.getD i .undef) u := by
    revert hr
    generalize vs.getD i .undef = q
    intro hr
    cases q <;> first | exact hr | exact hr.elim
  refine op_pure h hr' ?_
  have hu' : ws[i]? = some u := by simpa using hu
  unfold execOp
  simp only [ho, hv, Instr.extract, hu', Sem.run_bind, Sem.run_pure, Result.andThen_ok]

theorem op_makeFunc (h : Rel B w0 S0 G outs σ a w) {f : FuncId} {first cap : Array Operand} (ho : o.op = .makeFunc (.func f) first cap) (hfirst : first.toList = []) {l : List Nat} (hl : capsOf (cap.toList.map (ev σ.tm)) = some l) {e : Eff} (he : one (.fn f l) = some e) : OpOK P B w0 S0 outs σ a w o e := by
  rw [one_eq he]
  have key : ∀ (xs : List Operand) (l : List Nat), capsOf (xs.map (ev σ.tm)) = some l → All2 (fun o v => PtrR G (lks σ) o 0 v) l (xs.map a.eval) := by
    intro xs
    induction xs with
    | nil => intro l hl; simp [capsOf] at hl; subst hl; trivial
    | cons x r ih =>
      intro l hl
      simp only [List.map_cons, capsOf] at hl
      split at hl
      · rename_i ob l' h1 h2
        simp at hl; subst hl
        refine ⟨?_, ih l' h2⟩
        unfold capOf at h1
        split at h1
        · rename_i ob' he'
          simp at h1; subst h1
          have hv := ev_rel h x
          rw [he'] at hv
          exact hv
        · simp at h1
      · simp at hl
  refine op_pure h (v := .func (.func f) #[] (cap.map a.eval)) ⟨_, rfl, by simpa using key _ _ hl⟩ ?_
  have hf0 : first = #[] := by simpa using hfirst
  subst hf0
  unfold execOp
  simp [ho, Instr.makeFunc]

theorem op_makeInterface (h : Rel B w0 S0 G outs σ a w) {t : TypeId} {x : Operand} (ho : o.op = .makeInterface t x) {d : TypeDesc} (hu : P.underlying t = some d) (hd : ∀ ms, d ≠ .interface ms) {e : Eff} (he : one .undef = some e) : OpOK P B w0 S0 outs σ a w o e := by
  rw [one_eq he]
  refine op_pure h (v := .iface t (a.eval x)) (by simp only [VR, VR1, VR0]) ?_
  unfold execOp
  simp only [ho, Instr.makeInterface, Sem.run_bind, run_underlying hu w, Result.andThen_ok]
  cases d <;> first | rfl | exact absurd rfl (hd _)

/-! ### numbers -/
theorem op_unOp (h : Rel B w0 S0 G outs σ a w) {t : TypeId} {x : Operand} {op : UnOp} (ho : o.op = .unOp op t x) {e : Eff}
    (he : (∃ k n, op = .neg ∧ ev σ.tm x = .int k n ∧ one (.int k (k.wrap (0 - n))) = some e) ∨ (∃ b, op = .not ∧ ev σ.tm x = .bool b ∧ one (.bool (!b)) = some e)) : OpOK P B w0 S0 outs σ a w o e := by
  have hv := ev_rel h x
  rcases he with ⟨k, n, rfl, hx, he⟩ | ⟨b, rfl, hx, he⟩
  · rw [one_eq he]
    rw [hx] at hv
    have hv := hv.int
    refine op_pure h (v := .int k (k.wrap (0 - n))) rfl ?_
    unfold execOp
    simp only [ho, hv, Op.unary, Op.intArith, Sem.run_bind, Sem.run_pure, Result.andThen_ok]
  · rw [one_eq he]
    rw [hx] at hv
    have hv := hv.bool
    refine op_pure h (v := .bool (!b)) rfl ?_
    unfold execOp
    simp only [ho, hv, Op.unary, Sem.run_bind, Sem.run_pure, Result.andThen_ok]

theorem eqGuard_scalar {op : BinOp} {t : TypeId} {x y : Operand} {u v : Value} (hu : Leaf u) (hv : Leaf v) (h1 : u ≠ .nilIface) : (eqGuard op t x y u v).run P w = .ok () w := by
  cases op <;> first
    | rfl
    | (cases u <;> first | exact hu.elim | exact absurd rfl h1 | (cases v <;> first | rfl | exact hv.elim))

theorem bin_rel {op : BinOp} {k : IntKind} {n m : Int} {e : Eff} (he : bin op k n m = some e) (hc : e.chk = true) (hs : op ≠ .shl ∧ op ≠ .shr) : ∃ v, (∀ (G : Gh) (w : World) (look : Look), VR G w look e.val v) ∧ e.upd = [] ∧ e.room = true ∧ ∀ (t : TypeId) (w : World), (binOp op t (.int k n) (.int k m)).run P w = .ok v w := by
  cases op <;> simp only [bin] at he <;> try (simp at he; done)
  all_goals first
    | (rw [one_eq he]; refine ⟨_, fun _ _ _ => rfl, rfl, rfl, fun t w => ?_⟩; simp [binOp, Op.intArith, Op.intBits, Op.intCmp]; done)
    | (rw [chk1_eq he] at hc ⊢; refine ⟨_, fun _ _ _ => rfl, rfl, rfl, fun t w => ?_⟩; simp at hc; simp [binOp, Op.intDiv, hc]; done)
    | skip

theorem op_binInt (h : Rel B w0 S0 G outs σ a w) {op : BinOp} {t t' : TypeId} {x y : Operand} (ho : o.op = .binOp op t x y t') {k : IntKind} {n m : Int} (hx : ev σ.tm x = .int k n) (hy : ev σ.tm y = .int k m)
    (hs : op ≠ .shl ∧ op ≠ .shr) {e : Eff} (he : bin op k n m = some e) (hc : e.chk = true) : OpOK P B w0 S0 outs σ a w o e := by
  obtain ⟨v, hvr, hupd, hroom, hrun⟩ := bin_rel (P := P) he hc hs
  have h1 := ev_rel h x; rw [hx] at h1; have h1 := h1.int
  have h2 := ev_rel h y; rw [hy] at h2; have h2 := h2.int
  obtain ⟨c, rm, p, av, upd⟩ := e
  simp at hupd hroom; subst hupd; subst hroom
  refine op_pure h (v := v) (hvr G w _) ?_
  unfold execOp
  simp only [ho, h1, h2, Sem.run_bind, eqGuard_scalar (op := op) (t := t) (x := x) (y := y) (u := .int k n) (v := .int k m) trivial trivial (by simp), Result.andThen_ok, hrun, Sem.run_pure]

theorem op_shift (h : Rel B w0 S0 G outs σ a w) {op : BinOp} {t t' : TypeId} {x y : Operand} (ho : o.op = .binOp op t x y t') {k k' : IntKind} {n m : Int} (hx : ev σ.tm x = .int k n) (hy : ev σ.tm y = .int k' m) {e : Eff} (hc : e.chk = true)
    (he : (op = .shl ∧ chk1 (!(decide (m < 0))) (.int k (k.wrap (n * 2 ^ min m.toNat k.bits))) = some e) ∨ (op = .shr ∧ chk1 (!(decide (m < 0))) (.int k (n.fdiv (2 ^ min m.toNat k.bits))) = some e)) : OpOK P B w0 S0 outs σ a w o e := by
  have h1 := ev_rel h x; rw [hx] at h1; have h1 := h1.int
  have h2 := ev_rel h y; rw [hy] at h2; have h2 := h2.int
  rcases he with ⟨rfl, he⟩ | ⟨rfl, he⟩
  all_goals
    rw [chk1_eq he] at hc ⊢
    refine op_pure h rfl ?_
    have hm : ¬ (m < 0) := by simpa using hc
    unfold execOp
    simp only [ho, h1, h2, Sem.run_bind, eqGuard_scalar (t := t) (x := x) (y := y) (u := .int k n) (v := .int k' m) trivial trivial (by simp), Result.andThen_ok]
    simp [binOp, Op.shift, hm]

theorem equal_bool {t : TypeId} (hu : P.underlying t = some .bool) {n m : Bool} {w : World} : (Op.equalIn Op.maxDepth t (.bool n) (.bool m)).run P w = .ok (n == m) w := by
  show (Op.equalIn (9999 + 1) t (.bool n) (.bool m)).run P w = _
  generalize 9999 = d
  simp only [Op.equalIn, Sem.run_bind, run_underlying hu w, Result.andThen_ok, Sem.run_pure]

theorem op_binBool (h : Rel B w0 S0 G outs σ a w) {op : BinOp} {t t' : TypeId} {x y : Operand} (ho : o.op = .binOp op t x y t') {n m : Bool} (hx : ev σ.tm x = .bool n) (hy : ev σ.tm y = .bool m) (hu : P.underlying t = some .bool) {e : Eff}
    (he : (op = .eql ∧ one (.bool (n == m)) = some e) ∨ (op = .neq ∧ one (.bool (!(n == m))) = some e)) : OpOK P B w0 S0 outs σ a w o e := by
  have h1 := ev_rel h x; rw [hx] at h1; have h1 := h1.bool
  have h2 := ev_rel h y; rw [hy] at h2; have h2 := h2.bool
  rcases he with ⟨rfl, he⟩ | ⟨rfl, he⟩
  all_goals
    rw [one_eq he]
    refine op_pure h rfl ?_
    unfold execOp
    simp only [ho, h1, h2, Sem.run_bind, eqGuard_scalar (t := t) (x := x) (y := y) (u := .bool n) (v := .bool m) trivial trivial (by simp), Result.andThen_ok]
    simp only [binOp, Op.equal, Sem.run_bind, equal_bool hu, Result.andThen_ok, Sem.run_pure]

/-- A slice that has elements is not nil. -/
theorem op_binNil (h : Rel B w0 S0 G outs σ a w) {op : BinOp} {t t' : TypeId} {x y : Operand} (ho : o.op = .binOp op t x y t') {ex : Bool} {s : Sch} {xs : List s.D} (hx : ev σ.tm x = .sl ex s xs) (hy : ev σ.tm y = .nils) {el : TypeId} (hu : P.underlying t = some (.slice el)) {e : Eff} (hc : e.chk = true)
    (he : (op = .eql ∧ chk1 (decide (0 < xs.length)) (.bool false) = some e) ∨ (op = .neq ∧ chk1 (decide (0 < xs.length)) (.bool true) = some e)) : OpOK P B w0 S0 outs σ a w o e := by
  have h1 := ev_rel h x; rw [hx] at h1
  have h2 : a.eval y = .slice none 0 0 := by have := ev_rel h y; rw [hy] at this; exact this
  obtain ⟨hd, _⟩ := h1
  obtain ⟨ad, cap, hv, _, _, hA⟩ := (hd : DR G.S w (.sl s) xs [a.eval x])
  simp only [List.cons.injEq, and_true] at hv
  rcases he with ⟨rfl, he⟩ | ⟨rfl, he⟩
  all_goals
    rw [chk1_eq he] at hc ⊢
    simp only [decide_eq_true_eq] at hc
    obtain ⟨b, off, rfl, _⟩ := hA hc
    refine op_pure h rfl ?_
    unfold execOp
    simp only [ho, hv, h2, Sem.run_bind, eqGuard_scalar (t := t) (x := x) (y := y) (u := .slice (some ⟨b, off, none⟩) xs.length cap) (v := .slice none 0 0) trivial trivial (by simp), Result.andThen_ok]
    simp only [binOp, Sem.run_bind, run_equal_slice_nil w t el _ _ _ hu, Result.andThen_ok, Sem.run_pure]
    rfl

theorem op_nilNil (h : Rel B w0 S0 G outs σ a w) {op : BinOp} {t t' : TypeId} {x y : Operand} (ho : o.op = .binOp op t x y t') (hx : ev σ.tm x = .nils) (hy : ev σ.tm y = .nils) {el : TypeId} (hu : P.underlying t = some (.slice el)) {e : Eff}
    (he : (op = .eql ∧ one (.bool true) = some e) ∨ (op = .neq ∧ one (.bool false) = some e)) : OpOK P B w0 S0 outs σ a w o e := by
  have h1 : a.eval x = .slice none 0 0 := by have := ev_rel h x; rw [hx] at this; exact this
  have h2 : a.eval y = .slice none 0 0 := by have := ev_rel h y; rw [hy] at this; exact this
  rcases he with ⟨rfl, he⟩ | ⟨rfl, he⟩
  all_goals
    rw [one_eq he]
    refine op_pure h rfl ?_
    unfold execOp
    simp only [ho, h1, h2, Sem.run_bind, eqGuard_scalar (t := t) (x := x) (y := y) (u := .slice none 0 0) (v := .slice none 0 0) trivial trivial (by simp), Result.andThen_ok]
    simp only [binOp, Sem.run_bind, run_equal_slice_nil w t el _ _ _ hu, Result.andThen_ok, Sem.run_pure]
    rfl

theorem op_nilAny (h : Rel B w0 S0 G outs σ a w) {op : BinOp} {t t' : TypeId} {x y : Operand} (ho : o.op = .binOp op t x y t') {ex : Bool} {s : Sch} {xs : List s.D} (hx : ev σ.tm x = .sl ex s xs) (hy : ev σ.tm y = .nils) {el : TypeId} (hu : P.underlying t = some (.slice el)) {q : Bool}
    (hop : (op = .eql ∧ q = true) ∨ (op = .neq ∧ q = false)) : ∃ b : Bool, (execOp a.eval o).run P w = .ok (.value (.bool b)) w ∧ ((b = q ∧ xs.length = 0) ∨ b = !q) := by
  have h1 := ev_rel h x; rw [hx] at h1
  have h2 : a.eval y = .slice none 0 0 := by have := ev_rel h y; rw [hy] at this; exact this
  obtain ⟨hd, _⟩ := h1
  obtain ⟨ad, cap, hv, _, _, hA⟩ := (hd : DR G.S w (.sl s) xs [a.eval x])
  simp only [List.cons.injEq, and_true] at hv
  have hr : ∀ op, (op = .eql ∨ op = .neq) → o.op = .binOp op t x y t' → (execOp a.eval o).run P w = .ok (.value (.bool (match op with
      | .eql => ad.isNone
      | _ => !ad.isNone))) w := by
    intro op hop ho
    unfold execOp
    simp only [ho, hv, h2, Sem.run_bind, eqGuard_scalar (t := t) (x := x) (y := y) (u := .slice ad xs.length cap) (v := .slice none 0 0) trivial trivial (by simp), Result.andThen_ok]
    rcases hop with rfl | rfl <;> simp only [binOp, Sem.run_bind, run_equal_slice_nil w t el _ _ _ hu, Result.andThen_ok, Sem.run_pure]
  have hz : ad.isNone = true → xs.length = 0 := fun hn => by
    rcases Nat.eq_zero_or_pos xs.length with h0 | h0
    · exact h0
    · obtain ⟨b, off, rfl, _⟩ := hA h0
      cases hn
  rcases hop with ⟨rfl, rfl⟩ | ⟨rfl, rfl⟩
  · refine ⟨_, hr _ (.inl rfl) ho, ?_⟩
    cases hn : ad.isNone with
    | true => exact .inl ⟨rfl, hz hn⟩
    | false => exact .inr rfl
  · refine ⟨_, hr _ (.inr rfl) ho, ?_⟩
    cases hn : ad.isNone with
    | true => exact .inl ⟨rfl, hz hn⟩
    | false => exact .inr rfl

theorem op_binStr (h : Rel B w0 S0 G outs σ a w) {op : BinOp} {t t' : TypeId} {x y : Operand} (ho : o.op = .binOp op t x y t') {n m : ByteArray} (hx : ev σ.tm x = .str n) (hy : ev σ.tm y = .str m) {e : Eff} (hc : e.chk = true)
    (he : (match op with
      | .eql => one (.bool (n.toList == m.toList))
      | .neq => one (.bool (!(n.toList == m.toList)))
      | .add => chk1 (decide (((n.size + m.size : Nat) : Int) ≤ 9223372036854775807)) (.str (n ++ m))
      | .lss => one (.bool (Op.bytesLess n.toList m.toList))
      | .leq => one (.bool (Op.bytesLess n.toList m.toList || n.toList == m.toList))
      | .gtr => one (.bool (!(Op.bytesLess n.toList m.toList || n.toList == m.toList)))
      | .geq => one (.bool (!(Op.bytesLess n.toList m.toList)))
      | _ => none) = some e) : OpOK P B w0 S0 outs σ a w o e := by
  have h1 := ev_rel h x; rw [hx] at h1; have h1 := h1.str
  have h2 := ev_rel h y; rw [hy] at h2; have h2 := h2.str
  cases op <;> simp only at he <;> try (simp at he; done)
  case add =>
    rw [chk1_eq he] at hc ⊢
    refine op_pure h rfl ?_
    have hm : ¬ (((n.size + m.size : Nat) : Int) > IntKind.i64.max) := by
      have : (IntKind.i64.max : Int) = 9223372036854775807 := by decide
      rw [this]
      have := of_decide_eq_true hc
      omega
    unfold execOp
    simp only [ho, h1, h2, Sem.run_bind, eqGuard_scalar (t := t) (x := x) (y := y) (u := .string n) (v := .string m) trivial trivial (by simp), Result.andThen_ok]
    simp only [binOp, Op.stringOp, Sem.run_ite, if_neg hm, Sem.run_pure, Result.andThen_ok]
  all_goals
    rw [one_eq he]
    refine op_pure h rfl ?_
    unfold execOp
    simp only [ho, h1, h2, Sem.run_bind, eqGuard_scalar (t := t) (x := x) (y := y) (u := .string n) (v := .string m) trivial trivial (by simp), Result.andThen_ok]
    simp [binOp, Op.stringOp]

theorem op_convert (h : Rel B w0 S0 G outs σ a w) {src dst : TypeId} {x : Operand} (ho : o.op = .convert src dst x) {k k' : IntKind} {n : Int} (hd : P.underlying dst = some (.int k)) (hs : (P.underlying src).isSome = true) (hx : ev σ.tm x = .int k' n) {e : Eff}
    (he : one (.int k (k.wrap n)) = some e) : OpOK P B w0 S0 outs σ a w o e := by
  rw [one_eq he]
  have h1 := ev_rel h x; rw [hx] at h1; have h1 := h1.int
  refine op_pure h (v := .int k (k.wrap n)) rfl ?_
  cases hsu : P.underlying src with
  | none => simp [hsu] at hs
  | some d =>
    unfold execOp
    simp only [ho, h1, convert, Sem.run_bind, run_underlying hsu w, run_underlying hd w, Result.andThen_ok]
    simp [Conv.intToInt]

end
end Go.Pi
end

section
namespace Go.Pi
open Go.RowKit
set_option linter.unusedSimpArgs false
set_option linter.unusedVariables false

section
variable {P : Program} {B : Nat → Prop} {w0 : World} {S0 : Cells} {G : Gh} {outs : Outs} {σ : St} {a : Act} {w : World} {o : Oper} {look : Look}

def eqElems (P : Program) (d : Nat) (e : TypeId) (n : Nat) (xs ys : Array Value) : Nat → Nat → Sem Bool
  | 0, _ => pure true
  | m + 1, i => do
    let a ← part e xs (i * n)
    let b ← part e ys (i * n)
    let r ← Op.equalIn d e a b
    if (!r) = true then pure false else eqElems P d e n xs ys m (i + 1)

theorem run_equalIn_array (w : World) (d : Nat) (t e : TypeId) (m : Nat) (xs ys : Array Value) (ht : P.underlying t = some (.array m e)) (hi : (P.info? e).isSome = true) :
    (Op.equalIn (d + 1) t (.agg xs) (.agg ys)).run P w = (eqElems P d e (szOf P e) xs ys m 0).run P w := by
  simp only [Op.equalIn, Sem.run_bind, run_underlying ht, Result.andThen_ok, size_run hi w]
  rw [Std.Legacy.Range.forIn_eq_forIn_range']
  have hsz : ∀ m : Nat, (Std.Legacy.Range.size { stop := m, step_pos := (by decide : 0 < 1) }) = m := fun m => by simp [Std.Legacy.Range.size]
  simp only [hsz]
  generalize 0 = i
  clear ht hsz
  induction m generalizing i w with
  | zero => simp [eqElems]
  | succ m ih =>
    simp only [List.range'_succ, List.forIn_cons, eqElems, Sem.run_bind, Sem.run_ite]
    generalize (part e xs (i * szOf P e)).run P w = r1
    cases r1 with
    | ok a w1 =>
      simp only [Result.andThen_ok]
      generalize (part e ys (i * szOf P e)).run P w1 = r2
      cases r2 with
      | ok b w2 =>
        simp only [Result.andThen_ok]
        generalize (Op.equalIn d e a b).run P w2 = r3
        cases r3 with
        | ok r w3 =>
          cases r
          · simp only [Result.andThen_ok, Bool.not_false, if_true, Sem.run_pure]
          · simp only [Result.andThen_ok, Bool.not_true, Bool.false_eq_true, if_false, Sem.run_pure]
            exact ih w3 (i + 1)
        | halt x w3 => simp [Result.andThen]
      | halt x w2 => simp [Result.andThen]
    | halt x w1 => simp [Result.andThen]

/-- Cells as a value of a type. -/
def wrapV (P : Program) (t : TypeId) (vs : List Value) : Value := if isAggT P t then .agg vs.toArray else vs.headD Go.undef

theorem part_wrap {t : TypeId} {xs : Array Value} {off : Nat} {w : World} (hok : okT P t = true) (hfit : off + szOf P t ≤ xs.size) : (part t xs off).run P w = .ok (wrapV P t ((xs.toList.drop off).take (szOf P t))) w := part_run hok hfit

theorem eqTy_run : ∀ (n : Nat) (t : TypeId) (as bs : List AV) (vs us : List Value) (c : Bool) (d : Nat) (w' : World), n ≤ d → All2 (CR G w look) as vs → All2 (CR G w look) bs us → eqTy P n t as bs = some c →
    (Op.equalIn d t (wrapV P t vs) (wrapV P t us)).run P w' = .ok c w'
  | 0, t, as, bs, vs, us, c, d, w', _, _, _, h => by simp [eqTy] at h
  | n + 1, t, as, bs, vs, us, c, d, w', hd, ha, hb, h => by
    obtain ⟨d, rfl⟩ : ∃ m, d = m + 1 := ⟨d - 1, by omega⟩
    have hd' : n ≤ d := by omega
    simp only [eqTy] at h
    split at h
    · rename_i k0 hu
      have hag : isAggT P t = false := by simp [isAggT, hu]
      split at h
      · rename_i k x k' y
        split at h
        · rename_i hk
          subst hk
          simp at h; subst h
          cases vs with
          | nil => exact ha.elim
          | cons v r => cases us with
            | nil => exact hb.elim
            | cons u s =>
              have h1 : v = .int k x := ha.1.1
              have h2 : u = .int k y := hb.1.1
              simp only [wrapV, hag, Bool.false_eq_true, if_false, List.headD_cons, h1, h2]
              exact run_equalIn_int w' d t k k0 x y hu
        · simp at h
      · simp at h
    · rename_i hu
      have hag : isAggT P t = false := by simp [isAggT, hu]
      split at h
      · rename_i x y
        simp at h; subst h
        cases vs with
        | nil => exact ha.elim
        | cons v r => cases us with
          | nil => exact hb.elim
          | cons u s =>
            have h1 : v = .bool x := ha.1.1
            have h2 : u = .bool y := hb.1.1
            simp only [wrapV, hag, Bool.false_eq_true, if_false, List.headD_cons, h1, h2]
            exact run_equalIn_bool' w' d t x y hu
      · simp at h
    · rename_i hu
      have hag : isAggT P t = false := by simp [isAggT, hu]
      split at h
      · rename_i x y
        simp at h; subst h
        cases vs with
        | nil => exact ha.elim
        | cons v r => cases us with
          | nil => exact hb.elim
          | cons u s =>
            have h1 : v = .string x := ha.1.1
            have h2 : u = .string y := hb.1.1
            simp only [wrapV, hag, Bool.false_eq_true, if_false, List.headD_cons, h1, h2]
            exact run_equalIn_string w' d t x y hu
      · simp at h
    · rename_i fs hu
      have hag : isAggT P t = true := by simp [isAggT, hu]
      split at h
      · simp at h
      · rename_i hst
        have hf : P.fieldsOf t = fs := by simp [Program.fieldsOf, hu]
        simp only [wrapV, hag, if_true]
        rw [run_equalIn_struct w' d t _ _ (by rw [hf]; exact hu) (by simpa using hst), hf]
        generalize fs.toList = l at h
        clear hu hf
        induction l generalizing c with
        | nil => simp [eqFs] at h; subst h; rfl
        | cons f r ih =>
          simp only [eqFs] at h
          split at h
          · simp at h
          · rename_i hcond
            simp only [not_or, Bool.not_eq_false, Nat.not_lt] at hcond
            obtain ⟨hn, hok, hl1, hl2⟩ := hcond
            split at h
            · rename_i c1 c2 e1 e2
              simp at h; subst h
              have hla := ha.length
              have hlb := hb.length
              have h3 := eqTy_run n f.type _ _ _ _ c1 d w' hd' ((ha.drop f.offset).take _) ((hb.drop f.offset).take _) e1
              simp only [Op.eqFields, ne_eq, hn, not_false_eq_true, if_true, Sem.run_bind]
              rw [part_wrap hok (by simp; omega)]
              simp only [Result.andThen_ok]
              rw [part_wrap hok (by simp; omega)]
              simp only [Result.andThen_ok]
              rw [h3]
              simp only [Result.andThen_ok, Sem.run_ite, Sem.run_pure]
              cases c1 with
              | true => simpa using ih c2 e2
              | false => simp
            · simp at h
    · rename_i m e hu
      have hag : isAggT P t = true := by simp [isAggT, hu]
      split at h
      · simp at h
      · rename_i hcond
        simp only [not_or, Bool.not_eq_false, Nat.not_lt] at hcond
        obtain ⟨hok, hl1, hl2⟩ := hcond
        have hi : (P.info? e).isSome = true := (okT_parts hok).2.2
        simp only [wrapV, hag, if_true]
        rw [run_equalIn_array w' d t e m _ _ hu hi]
        have hla := ha.length
        have hlb := hb.length
        have key : ∀ (q i : Nat) (c : Bool), i + q = m → eqAr (szOf P e) (eqTy P n e) as bs q i = some c → (eqElems P d e (szOf P e) vs.toArray us.toArray q i).run P w' = .ok c w' := by
          intro q
          induction q with
          | zero => intro i c _ h; simp [eqAr] at h; subst h; rfl
          | succ q ih =>
            intro i c hiq h
            simp only [eqAr] at h
            split at h
            · rename_i c1 c2 e1 e2
              simp at h; subst h
              have h3 := eqTy_run n e _ _ _ _ c1 d w' hd' ((ha.drop (i * szOf P e)).take _) ((hb.drop (i * szOf P e)).take _) e1
              have h4 : i * szOf P e + szOf P e ≤ m * szOf P e := by
                have : (i + 1) * szOf P e ≤ m * szOf P e := Nat.mul_le_mul_right _ (by omega)
                rwa [Nat.add_mul, Nat.one_mul] at this
              simp only [eqElems, Sem.run_bind]
              rw [part_wrap hok (by simp; omega)]
              simp only [Result.andThen_ok]
              rw [part_wrap hok (by simp; omega)]
              simp only [Result.andThen_ok]
              rw [h3]
              simp only [Result.andThen_ok, Sem.run_ite, Sem.run_pure]
              cases c1 with
              | true => simpa using ih (i + 1) c2 (by omega) e2
              | false => simp
            · simp at h
        exact key m 0 c (by omega) h
    · simp at h

theorem op_binAgg (h : Rel B w0 S0 G outs σ a w) {op : BinOp} {t t' : TypeId} {x y : Operand} (ho : o.op = .binOp op t x y t') {n m : List AV} (hx : ev σ.tm x = .agg n) (hy : ev σ.tm y = .agg m) (hg : P.eqGuardType P.depth t = false) {c : Bool} (hag : isAggT P t = true) (heq : eqTy P 12 t n m = some c) {e : Eff}
    (he : (op = .eql ∧ one (.bool c) = some e) ∨ (op = .neq ∧ one (.bool (!c)) = some e)) : OpOK P B w0 S0 outs σ a w o e := by
  have h1 := ev_rel h x; rw [hx] at h1
  have h2 := ev_rel h y; rw [hy] at h2
  obtain ⟨vs, h1, ha⟩ := h1
  obtain ⟨us, h2, hb⟩ := h2
  have hr := eqTy_run 12 t n m vs.toList us.toList c 10000 w (by decide) ha hb heq
  simp only [wrapV, hag, if_true, Array.toArray_toList] at hr
  rcases he with ⟨rfl, he⟩ | ⟨rfl, he⟩
  · rw [one_eq he]
    refine op_pure h (v := .bool c) rfl ?_
    unfold execOp
    simp only [ho, h1, h2, Sem.run_bind, run_eqGuard_agg w .eql t x y vs us hg, Result.andThen_ok, run_eql_struct, hr, Sem.run_pure]
  · rw [one_eq he]
    refine op_pure h (v := .bool (!c)) rfl ?_
    unfold execOp
    simp only [ho, h1, h2, Sem.run_bind, run_eqGuard_agg w .neq t x y vs us hg, Result.andThen_ok, run_neq_struct, hr, Sem.run_pure]

end
end Go.Pi
end

section
namespace Go.Pi
open Go.RowKit
set_option linter.unusedSimpArgs false
set_option linter.unusedVariables false

section
variable {P : Program} {B : Nat → Prop} {w0 : World} {S0 : Cells} {G : Gh} {outs : Outs} {σ : St} {a : Act} {w : World} {o : Oper} {look : Look}

theorem elOk_parts {e : TypeId} (h : elOk P e = true) : (P.info? e).isSome = true ∧ (sch P e).size = szOf P e := by
  simpa [elOk] using h

/-! ### len -/
theorem op_len (h : Rel B w0 S0 G outs σ a w) {c : Call} (ho : o.op = .call c) (hc : c.callee = .builtin .len) {t : TypeId} {x : Operand} (ht : c.argTypes[0]? = some t) (hx : c.args[0]? = some x) {e : Eff}
    (he : (∃ n el, P.underlying t = some (.array n el) ∧ one (.int .i64 n) = some e) ∨
      (∃ el n, P.underlying t = some (.slice el) ∧ lenAV (lks σ) (ev σ.tm x) = some n ∧ some (⟨true, lenOk n, none, .int .i64 n, []⟩ : Eff) = some e) ∨
      (∃ s, P.underlying t = some .string ∧ ev σ.tm x = .str s ∧ one (.int .i64 s.size) = some e)) : OpOK P B w0 S0 outs σ a w o e := by
  have hv := ev_rel h x
  have hargs : (c.args.map a.eval)[0]? = some (a.eval x) := by simp [hx]
  have hrun : ∀ r, (Builtin.len_ c.argTypes o.type (c.args.map a.eval)).run P w = .ok r w → (execOp a.eval o).run P w = .ok (.value r) w := by
    intro r hr
    unfold execOp
    simp [ho, hc, resolve, invoke, builtin, hr]
  rcases he with ⟨n, el, hu, he⟩ | ⟨el, n, hu, hl, he⟩ | ⟨s, hu, hs, he⟩
  · rw [one_eq he]
    refine op_pure h (v := .int .i64 n) rfl (hrun _ ?_)
    unfold Builtin.len_
    simp only [ht, hargs, Sem.run_bind, run_underlying hu w, Result.andThen_ok]
    rfl
  · simp at he
    subst he
    have key : ∀ (n : Nat) (ad : Option Addr) (cap : Nat), a.eval x = .slice ad n cap → (n ≤ 9223372036854775807) → OpOK P B w0 S0 outs σ a w o ⟨true, lenOk n, none, .int .i64 n, []⟩ := by
      intro n ad cap hval hmx
      have hok : lenOk n = true := by simpa [lenOk] using hmx
      rw [hok]
      refine op_pure h (v := .int .i64 n) rfl (hrun _ ?_)
      unfold Builtin.len_
      simp only [ht, hargs, hval, Sem.run_bind, run_underlying hu w, Result.andThen_ok]
      rfl
    revert hl hv
    generalize hq : ev σ.tm x = q
    intro hv hl
    cases q <;> simp only [lenAV] at hl <;> try (simp at hl; done)
    case sl ex s xs =>
      simp at hl; subst hl
      obtain ⟨⟨ad, cap, e1, h1, h2, _⟩, _⟩ := hv
      simp at e1
      exact key _ ad cap e1 (by omega)
    case nils =>
      simp at hl; subst hl
      exact key 0 none 0 hv (by omega)
    case ref ob ver =>
      obtain ⟨_, m, ver', s, xs, hlk, hmf, hle, hr⟩ := hv
      rw [hlk] at hl
      simp only at hl
      split at hl
      · rename_i hver
        simp at hl; subst hl
        have hv := hr hver
        have hO := (h.obj ob _ hlk).2
        cases hM : G.M ob with
        | none =>
          rw [hM] at hv hO
          obtain ⟨hz, hv⟩ := hv
          rw [hz]
          exact key 0 none 0 hv (by omega)
        | some q =>
          obtain ⟨b, cap⟩ := q
          rw [hM] at hv hO
          obtain ⟨_, _, _, _, _, hle2, hmx, _⟩ := hO
          have := hmx hmf
          exact key _ _ cap hv (by omega)
      · simp at hl
  · rw [one_eq he]
    rw [hs] at hv
    have hv := hv.str
    refine op_pure h (v := .int .i64 s.size) rfl (hrun _ ?_)
    unfold Builtin.len_
    simp only [ht, hargs, hv, Sem.run_bind, run_underlying hu w, Result.andThen_ok]
    rfl

/-! ### max, min -/
theorem fold_max {k : IntKind} {w : World} : ∀ (r : List AV) (vs : List Value) (n : Int) (v : AV), All2 (VR G w look) r vs → foldMM true k n r = some v → ∃ m, v = .int k m ∧ (vs.foldlM Builtin.max2 (.int k n)).run P w = .ok (.int k m) w
  | [], vs, n, v, h, e => by
    cases vs with
    | nil => simp [foldMM] at e; exact ⟨n, e.symm, rfl⟩
    | cons _ _ => exact h.elim
  | x :: r, vs, n, v, h, e => by
    cases vs with
    | nil => exact h.elim
    | cons u us =>
      cases x <;> simp only [foldMM] at e <;> try (simp at e; done)
      rename_i k' b
      have h1 : u = .int k' b := h.1
      obtain ⟨m, hm, hr⟩ := fold_max r us _ v h.2 e
      refine ⟨m, hm, ?_⟩
      subst h1
      simp only [List.foldlM_cons, Sem.run_bind, Builtin.max2, Sem.run_pure, Result.andThen_ok]
      simpa [minmax] using hr

theorem fold_min {k : IntKind} {w : World} : ∀ (r : List AV) (vs : List Value) (n : Int) (v : AV), All2 (VR G w look) r vs → foldMM false k n r = some v → ∃ m, v = .int k m ∧ (vs.foldlM Builtin.min2 (.int k n)).run P w = .ok (.int k m) w
  | [], vs, n, v, h, e => by
    cases vs with
    | nil => simp [foldMM] at e; exact ⟨n, e.symm, rfl⟩
    | cons _ _ => exact h.elim
  | x :: r, vs, n, v, h, e => by
    cases vs with
    | nil => exact h.elim
    | cons u us =>
      cases x <;> simp only [foldMM] at e <;> try (simp at e; done)
      rename_i k' b
      have h1 : u = .int k' b := h.1
      obtain ⟨m, hm, hr⟩ := fold_min r us _ v h.2 e
      refine ⟨m, hm, ?_⟩
      subst h1
      simp only [List.foldlM_cons, Sem.run_bind, Builtin.min2, Sem.run_pure, Result.andThen_ok]
      simpa [minmax] using hr

theorem evs_rel (h : Rel B w0 S0 G outs σ a w) : ∀ (l : List Operand), All2 (VR G w (lks σ)) (l.map (ev σ.tm)) (l.map a.eval)
  | [] => trivial
  | x :: r => ⟨ev_rel h x, evs_rel h r⟩

theorem op_maxmin (h : Rel B w0 S0 G outs σ a w) {c : Call} (ho : o.op = .call c) (mx : Bool) (hc : c.callee = .builtin (if mx then .max else .min)) {k : IntKind} {n : Int} {r : List AV} (hx : c.args.toList.map (ev σ.tm) = .int k n :: r) {v : AV} (hf : foldMM mx k n r = some v) {e : Eff} (he : one v = some e) : OpOK P B w0 S0 outs σ a w o e := by
  rw [one_eq he]
  have hall := evs_rel h c.args.toList
  rw [hx] at hall
  cases hv : c.args.toList.map a.eval with
  | nil => rw [hv] at hall; exact hall.elim
  | cons u us =>
    rw [hv] at hall
    have h1 : u = .int k n := hall.1
    have hargs : c.args.map a.eval = (u :: us).toArray := by
      apply Array.ext'
      rw [Array.toList_map, hv]
    cases mx with
    | true =>
      obtain ⟨m, rfl, hr⟩ := fold_max (P := P) r us n v hall.2 hf
      refine op_pure h (v := .int k m) rfl ?_
      unfold execOp
      simp only [ho, hc, resolve, invoke, builtin, if_true, hargs, Builtin.max_, h1, Sem.run_bind, Sem.run_pure, Result.andThen_ok, hr]
    | false =>
      obtain ⟨m, rfl, hr⟩ := fold_min (P := P) r us n v hall.2 hf
      refine op_pure h (v := .int k m) rfl ?_
      unfold execOp
      simp only [ho, hc, resolve, invoke, builtin, Bool.false_eq_true, if_false, hargs, Builtin.min_, h1, Sem.run_bind, Sem.run_pure, Result.andThen_ok, hr]

/-! ### index -/
theorem op_index (h : Rel B w0 S0 G outs σ a w) {t el : TypeId} {m : Nat} {x i : Operand} (ho : o.op = .index t x i) (hu : P.underlying t = some (.array m el)) {cs : List AV} (hx : ev σ.tm x = .agg cs) {k : IntKind} {n : Int} (hi : ev σ.tm i = .int k n)
    (hel : elOk P el = true) (hok : okT P el = true) {xs : List (sch P el).D} (hd : decN (sch P el) m (cs.map (pur (lks σ))) = some xs) {e : Eff} (hc : e.chk = true)
    (he : chk1 (decide (0 ≤ n) && decide (n < m)) (wrapAgg (isAggT P el) ((sch P el).enc (xs.getD n.toNat (sch P el).dflt))) = some e) : OpOK P B w0 S0 outs σ a w o e := by
  rw [chk1_eq he] at hc ⊢
  simp at hc
  obtain ⟨h0, h1⟩ := hc
  obtain ⟨hinf, hsz⟩ := elOk_parts hel
  have hv := ev_rel h x
  rw [hx] at hv
  obtain ⟨vs, hv, ha⟩ := hv
  have hiv := ev_rel h i
  rw [hi] at hiv
  have hiv := hiv.int
  obtain ⟨hxl, hdn⟩ := decN_rel (purs_rel h.obj ha) hd
  have hdi := hdn.2 n.toNat _ (getD_of_lt (by omega) (sch P el).dflt)
  have hl := hdi.length
  have hfit : n.toNat * szOf P el + szOf P el ≤ vs.size := by
    have h2 := hdn.1
    have : (n.toNat + 1) * (sch P el).size ≤ xs.length * (sch P el).size := Nat.mul_le_mul_right _ (by omega)
    rw [Nat.add_mul, Nat.one_mul] at this
    rw [← hsz]
    simp at h2
    omega
  rw [hsz] at hdi
  refine op_pure h (wrapAgg_rel (ag := isAggT P el) ?_ (enc_rel hdi)) ?_
  · cases hag : isAggT P el with
    | true => exact .inr rfl
    | false =>
      refine .inl ?_
      rw [(enc_rel (look := lks σ) hdi).length, hdi.length, hsz]
      exact (okT_parts hok).2.1 hag
  · unfold execOp
    simp only [ho, hv, hiv, Instr.index, asIntOf, Sem.run_bind, Sem.run_pure, Result.andThen_ok, run_underlying hu w, Sem.run_ite, h0, h1, and_self, if_true, size_run hinf w, part_run hok hfit]

/-- Out of an array of pointers. -/
theorem op_index2 (h : Rel B w0 S0 G outs σ a w) {t el : TypeId} {m : Nat} {x i : Operand} (ho : o.op = .index t x i) (hu : P.underlying t = some (.array m el)) {cs : List AV} (hx : ev σ.tm x = .agg cs) {k : IntKind} {n : Int} (hi : ev σ.tm i = .int k n)
    (hok : okT P el = true) (hm : m * szOf P el ≤ cs.length) {e : Eff} (hc : e.chk = true)
    (he : chk1 (decide (0 ≤ n) && decide (n < m)) (wrapAgg (isAggT P el) ((cs.drop (n.toNat * szOf P el)).take (szOf P el))) = some e) : OpOK P B w0 S0 outs σ a w o e := by
  rw [chk1_eq he] at hc ⊢
  simp at hc
  obtain ⟨h0, h1⟩ := hc
  obtain ⟨_, hs1, hinf⟩ := okT_parts hok
  have hv := ev_rel h x
  rw [hx] at hv
  obtain ⟨vs, hv, ha⟩ := hv
  have hiv := ev_rel h i
  rw [hi] at hiv
  have hiv := hiv.int
  have hl := ha.length
  have hfc : n.toNat * szOf P el + szOf P el ≤ cs.length := by
    have : (n.toNat + 1) * szOf P el ≤ m * szOf P el := Nat.mul_le_mul_right _ (by omega)
    rw [Nat.add_mul, Nat.one_mul] at this
    omega
  have hfit : n.toNat * szOf P el + szOf P el ≤ vs.size := by simp at hl; omega
  have hseg := (ha.drop (n.toNat * szOf P el)).take (szOf P el)
  refine op_pure h (wrapAgg_rel (ag := isAggT P el) ?_ hseg) ?_
  · cases hag : isAggT P el with
    | true => exact .inr rfl
    | false =>
      refine .inl ?_
      have := hs1 hag
      rw [List.length_take, List.length_drop]
      omega
  · unfold execOp
    simp only [ho, hv, hiv, Instr.index, asIntOf, Sem.run_bind, Sem.run_pure, Result.andThen_ok, run_underlying hu w, Sem.run_ite, h0, h1, and_self, if_true, size_run hinf w, part_run hok hfit]

theorem op_indexStr (h : Rel B w0 S0 G outs σ a w) {t : TypeId} {x i : Operand} (ho : o.op = .index t x i) (hu : P.underlying t = some .string) {s : ByteArray} (hx : ev σ.tm x = .str s) {k : IntKind} {n : Int} (hi : ev σ.tm i = .int k n)
    {e : Eff} (hc : e.chk = true) (he : chk1 (decide (0 ≤ n) && decide (n < s.size)) (.int .u8 (s.data.toList.getD n.toNat 0).toNat) = some e) : OpOK P B w0 S0 outs σ a w o e := by
  rw [chk1_eq he] at hc ⊢
  simp at hc
  obtain ⟨h0, h1⟩ := hc
  have hv := ev_rel h x
  rw [hx] at hv
  have hv := hv.str
  have hiv := ev_rel h i
  rw [hi] at hiv
  have hiv := hiv.int
  have hlt : n.toNat < s.size := by omega
  have hg : s[n.toNat]? = some (s.data.toList.getD n.toNat 0) := by
    have h3 : n.toNat < s.data.toList.length := by simpa using hlt
    rw [getElem?_pos s n.toNat hlt, List.getD_eq_getElem?_getD, List.getElem?_eq_getElem h3]
    rfl
  refine op_pure h (v := .int .u8 (s.data.toList.getD n.toNat 0).toNat) rfl ?_
  unfold execOp
  simp only [ho, hv, hiv, Instr.index, asIntOf, Sem.run_bind, Sem.run_pure, Result.andThen_ok, run_underlying hu w, h0, if_true, hg]

/-! ### slice -/
theorem bounds_run {isSl : Bool} {len cap : Nat} {low high : Option Value} {l h : Int} (hl : (low = none ∧ l = 0) ∨ ∃ k, low = some (.int k l)) (hh : (high = none ∧ h = len) ∨ ∃ k, high = some (.int k h)) (h0 : 0 ≤ l) (h1 : l ≤ h) (h2 : h ≤ len) (h3 : len ≤ cap) :
    (Instr.sliceBounds isSl len cap low high none).run P w = .ok (l.toNat, h.toNat, cap) w := by
  have a1 : 0 ≤ h := by omega
  have a2 : h ≤ cap := by omega
  have a3 : l ≤ (h.toNat : Int) := by omega
  rcases hl with ⟨rfl, rfl⟩ | ⟨k, rfl⟩ <;> rcases hh with ⟨rfl, rfl⟩ | ⟨k', rfl⟩ <;>
    simp [Instr.sliceBounds, Instr.sliceBound, asIntOf, a1, a2, a3, h0] <;> (intro h9; exfalso; omega)

theorem optInt_rel (h : Rel B w0 S0 G outs σ a w) {x : Option Operand} {r : Option Int} (e : optInt (ev σ.tm) x = some r) (d : Int) : (x.map a.eval = none ∧ r.getD d = d) ∨ ∃ k, x.map a.eval = some (.int k (r.getD d)) := by
  cases x with
  | none => simp [optInt] at e; subst e; exact .inl ⟨rfl, rfl⟩
  | some y =>
    simp only [optInt] at e
    split at e
    · rename_i k n hy
      simp at e; subst e
      have := ev_rel h y
      rw [hy] at this
      exact .inr ⟨k, by simp [this.int]⟩
    · simp at e

theorem DR.cut {S : Cells} {s : Sch} {xs : List s.D} {ad : Option Addr} {cap l n : Nat} (h : DR S w (.sl s) xs [.slice ad xs.length cap]) (h1 : l ≤ n) (h2 : n ≤ xs.length) :
    DR S w (.sl s) ((xs.take n).drop l) [.slice (if cap = l then ad else ad.map (·.add (l * s.size))) (n - l) (cap - l)] := by
  obtain ⟨ad', cap', e1, hc, hmx, he⟩ := h
  simp at e1
  obtain ⟨rfl, rfl⟩ := e1
  have hlen : ((xs.take n).drop l).length = n - l := by simp; omega
  refine ⟨_, cap - l, by rw [hlen], by rw [hlen]; omega, by omega, fun hp => ?_⟩
  rw [hlen] at hp
  obtain ⟨b, off, rfl, hE⟩ := he (by omega)
  have hne : ¬ (cap = l) := by omega
  refine ⟨b, off + l * s.size, by simp [hne, addr_add], fun i x hx => ?_⟩
  rw [List.getElem?_drop] at hx
  have hx2 : xs[l + i]? = some x := by
    rw [List.getElem?_take] at hx
    split at hx
    · exact hx
    · simp at hx
  obtain ⟨ws, hd, hw⟩ := hE (l + i) x hx2
  refine ⟨ws, hd, fun j v hv => ?_⟩
  have := hw j v hv
  rwa [show off + (l + i) * s.size + j = off + l * s.size + i * s.size + j by rw [Nat.add_mul]; omega] at this

theorem op_slice (h : Rel B w0 S0 G outs σ a w) {t el : TypeId} {x : Operand} {lo hi : Option Operand} (ho : o.op = .slice t x lo hi none) (hu : P.underlying t = some (.slice el)) {l r : Option Int} (hl : optInt (ev σ.tm) lo = some l) (hr : optInt (ev σ.tm) hi = some r)
    {xs : List (sch P el).D} (hx : asSl (lks σ) (sch P el) (ev σ.tm x) = some xs) (hel : elOk P el = true) {e : Eff} (hc : e.chk = true) (he : some (cutF (sch P el) xs l r) = some e) : OpOK P B w0 S0 outs σ a w o e := by
  simp at he
  subst he
  simp only [cutF, decide_eq_true_eq] at hc
  obtain ⟨h0, h1, h2⟩ := hc
  obtain ⟨hinf, hsz⟩ := elOk_parts hel
  have hd : DR G.S w (.sl (sch P el)) xs [a.eval x] := decTy_rel h.obj (ev_rel h x) hx
  have hd0 := hd
  obtain ⟨ad, cap, e1, hc1, hmx, _⟩ := hd
  simp at e1
  rw [e1] at hd0
  have hcut := hd0.cut (l := (l.getD 0).toNat) (n := (r.getD xs.length).toNat) (by omega) (by omega)
  have hb := bounds_run (P := P) (w := w) (isSl := true) (cap := cap) (optInt_rel h hl 0) (optInt_rel h hr xs.length) h0 h1 h2 hc1
  refine op_pure h (v := .slice (if cap = (l.getD 0).toNat then ad else ad.map (·.add ((l.getD 0).toNat * (sch P el).size))) ((r.getD xs.length).toNat - (l.getD 0).toNat) (cap - (l.getD 0).toNat)) ⟨hcut, fun e => by simp at e⟩ ?_
  unfold execOp
  simp only [ho, e1, Instr.sliceAt, Instr.slice, Sem.run_bind, run_underlying hu w, Option.map_none, hb, Result.andThen_ok, size_run hinf w, Sem.run_pure, hsz]

theorem op_clip (h : Rel B w0 S0 G outs σ a w) {t el : TypeId} {x m y : Operand} (ho : o.op = .slice t x none (some y) (some m)) (hu : P.underlying t = some (.slice el)) {k k' : IntKind} {n c : Int} (hy : ev σ.tm y = .int k n) (hm : ev σ.tm m = .int k' c)
    {xs : List (sch P el).D} (hx : asSl (lks σ) (sch P el) (ev σ.tm x) = some xs) (hel : elOk P el = true) {e : Eff} (hc : e.chk = true) (he : some (⟨decide (n = xs.length ∧ c = xs.length), true, none, .sl true (sch P el) xs, []⟩ : Eff) = some e) : OpOK P B w0 S0 outs σ a w o e := by
  obtain rfl := Option.some.inj he
  simp only [decide_eq_true_eq] at hc
  obtain ⟨rfl, rfl⟩ := hc
  obtain ⟨hinf, hsz⟩ := elOk_parts hel
  have hd : DR G.S w (.sl (sch P el)) xs [a.eval x] := decTy_rel h.obj (ev_rel h x) hx
  obtain ⟨ad, cap, e1, hc1, hmx, hE⟩ := hd
  simp at e1
  have v1 := ev_rel h y
  rw [hy] at v1
  have v1 := v1.int
  have v2 := ev_rel h m
  rw [hm] at v2
  have v2 := v2.int
  have hb : (Instr.sliceBounds true xs.length cap none (some (.int k xs.length)) (some (.int k' xs.length))).run P w = .ok (0, xs.length, xs.length) w := by
    have a2 : (xs.length : Int) ≤ cap := by omega
    simp [Instr.sliceBounds, Instr.sliceBound, asIntOf, a2]
  have e2 : (if xs.length = 0 then ad else ad.map (·.add (0 * szOf P el))) = ad := by
    split
    · rfl
    · cases ad with
      | none => rfl
      | some q => simp [Addr.add]
  refine op_pure h (v := .slice ad xs.length xs.length) ⟨⟨ad, xs.length, rfl, Nat.le_refl _, by omega, hE⟩, fun _ => ⟨ad, rfl⟩⟩ ?_
  unfold execOp
  simp only [ho, e1, v1, v2, Instr.sliceAt, Instr.slice, Sem.run_bind, run_underlying hu w, Option.map_none, Option.map_some, hb, Result.andThen_ok, size_run hinf w, Sem.run_pure, hsz, e2, Nat.sub_zero]

theorem op_sliceStr (h : Rel B w0 S0 G outs σ a w) {t : TypeId} {x : Operand} {lo hi : Option Operand} (ho : o.op = .slice t x lo hi none) (hu : P.underlying t = some .string) {l r : Option Int} (hl : optInt (ev σ.tm) lo = some l) (hr : optInt (ev σ.tm) hi = some r)
    {s : ByteArray} (hx : ev σ.tm x = .str s) {e : Eff} (hc : e.chk = true) (he : some (⟨decide (0 ≤ l.getD 0 ∧ l.getD 0 ≤ r.getD s.size ∧ r.getD s.size ≤ s.size), true, none, .str (s.extract (l.getD 0).toNat (r.getD s.size).toNat), []⟩ : Eff) = some e) : OpOK P B w0 S0 outs σ a w o e := by
  obtain rfl := Option.some.inj he
  simp only [decide_eq_true_eq] at hc
  obtain ⟨h0, h1, h2⟩ := hc
  have hv := ev_rel h x
  rw [hx] at hv
  have hv := hv.str
  have hb := bounds_run (P := P) (w := w) (isSl := false) (cap := s.size) (optInt_rel h hl 0) (optInt_rel h hr s.size) h0 h1 h2 (Nat.le_refl _)
  refine op_pure h (v := .string (s.extract (l.getD 0).toNat (r.getD s.size).toNat)) rfl ?_
  unfold execOp
  simp only [ho, hv, Instr.sliceAt, Instr.slice, Sem.run_bind, run_underlying hu w, Option.map_none, hb, Result.andThen_ok, Sem.run_pure, Option.isSome_none, Bool.false_eq_true, if_false]

theorem optInt_no {ρ : Operand → AV} {x : Option Operand} (h : optInt ρ x = some none) : x = none := by
  cases x with
  | none => rfl
  | some y =>
    unfold optInt at h
    split at h
    · rename_i e; cases e
    · split at h <;> cases h
theorem asPel_rel {look : Look} (hobj : ∀ o ob, look o = some ob → ObR B G w look o ob) {c : AV} {v : Value} (h : VR G w look c v) : VR G w look (asPel look c) v := by
  unfold asPel
  split
  · rename_i o ver i off
    split
    · rename_i ver' s xs ho
      split
      · rename_i e
        obtain ⟨_, m, ver'', s', xs', ho', hle, hr⟩ := h
        rw [ho] at ho'
        simp only [Option.some.injEq, Ob.arr.injEq] at ho'
        obtain ⟨rfl, rfl, rfl, e2⟩ := ho'
        have e3 := eq_of_heq e2
        subst e3
        obtain ⟨hi, b, cp, hm, rfl⟩ := hr e
        exact ⟨hi, b, 0, (hobj o _ ho).2.elr hm, by simp⟩
      · exact trivial
    · exact trivial
  · exact h
/-- x[:] of an array that is an element of a slice. -/
theorem op_slicePel (h : Rel B w0 S0 G outs σ a w) {t el : TypeId} {m : Nat} {x : Operand} {lo hi : Option Operand} (ho : o.op = .slice t x lo hi none) (hu : P.underlying t = some (.array m el)) (hl : optInt (ev σ.tm) lo = some none) (hr : optInt (ev σ.tm) hi = some none)
    {s : Sch} {xs : List s.D} {j off : Nat} (hx : asPel (lks σ) (ev σ.tm x) = .pel s xs j off) {ys : List (sch P el).D} (hd : decN (sch P el) m (((s.enc (xs.getD j s.dflt)).drop off).take (m * szOf P el)) = some ys)
    (hel : elOk P el = true) (hm0 : 0 < m) (hm : m ≤ 16777216) (hfit : off + m * szOf P el ≤ s.size) {e : Eff} (he : one (.sl false (sch P el) ys) = some e) : OpOK P B w0 S0 outs σ a w o e := by
  obtain rfl := Option.some.inj he
  obtain rfl := optInt_no hl
  obtain rfl := optInt_no hr
  obtain ⟨hinf, hsz⟩ := elOk_parts hel
  have hv : VR G w (lks σ) (.pel s xs j off) (a.eval x) := by
    have := asPel_rel h.obj (ev_rel h x)
    rwa [hx] at this
  obtain ⟨hj, b, o0, hE, hv⟩ := hv
  obtain ⟨ws, hdr, hw⟩ := hE j _ (getD_of_lt hj s.dflt)
  have hwl := hdr.length
  obtain ⟨hyl, hdn⟩ := decN_rel (((enc_rel (look := lks σ) hdr).drop off).take (m * szOf P el)) hd
  refine op_pure h (v := .slice (some ⟨b, o0 + j * s.size + off, none⟩) m m) ⟨⟨_, m, by rw [hyl], by rw [hyl]; exact Nat.le_refl _, by omega, fun _ => ⟨b, o0 + j * s.size + off, rfl, fun i y hy => ?_⟩⟩, fun e => by cases e⟩ ?_
  · have hi : i < m := by
      rw [← hyl]
      exact (List.getElem?_eq_some_iff.1 hy).1
    refine ⟨_, hdn.2 i y hy, fun k u hu' => ?_⟩
    rw [List.getElem?_take] at hu'
    split at hu'
    · rename_i hk
      rw [List.getElem?_drop, List.getElem?_take] at hu'
      split at hu'
      · rw [List.getElem?_drop] at hu'
        have := hw _ u hu'
        rwa [show o0 + j * s.size + (off + (i * (sch P el).size + k)) = o0 + j * s.size + off + i * (sch P el).size + k by omega] at this
      · cases hu'
    · cases hu'
  · unfold execOp
    have hev : a.eval x = .pointer (some ⟨b, o0 + j * s.size + off, none⟩) := hv
    have hm1 : m ≠ 0 := by omega
    simp only [ho, hev, Option.map_none, Instr.sliceAt, Instr.sureAddr, Sem.run_bind, run_underlying hu w, Result.andThen_ok, Sem.run_pure, Instr.sliceBounds, size_run hinf w]
    simp [hm1, addr_add]

end
end Go.Pi
end

section
namespace Go.Pi
open Go.RowKit
set_option linter.unusedSimpArgs false
set_option linter.unusedVariables false

section
variable {P : Program} {B : Nat → Prop} {w0 : World} {S0 : Cells} {G : Gh} {outs : Outs} {σ : St} {a : Act} {w : World} {o : Oper} {look : Look}

theorem foldl_sets : ∀ (l : List Value) (off k : Nat) (cells : Array Value), off + k + l.length ≤ cells.size →
    ((l.zipIdx k).foldl (fun cs (p : Value × Nat) => cs.setIfInBounds (off + p.2) p.1) cells).toList = spliceV cells.toList (off + k) l
  | [], off, k, cells, h => by simp [spliceV]
  | v :: r, off, k, cells, h => by
    simp only [List.length_cons] at h
    rw [List.zipIdx_cons, List.foldl_cons, foldl_sets r off (k + 1) _ (by simp; omega)]
    apply List.ext_getElem?
    intro j
    rw [spliceV_get _ _ _ (by simp; omega), spliceV_get _ _ _ (by simp; omega)]
    by_cases h1 : j = off + k
    · subst h1
      rw [if_neg (by omega), if_pos (by simp)]
      simp [Array.getElem?_setIfInBounds, show off + k < cells.size by omega]
    · by_cases h2 : off + k ≤ j ∧ j < off + k + (r.length + 1)
      · rw [if_pos (by omega), if_pos (by simpa using h2)]
        rw [show j - (off + k) = (j - (off + (k + 1))) + 1 by omega]
        simp
      · rw [if_neg (by omega), if_neg (by simpa using h2)]
        simp [Array.getElem?_setIfInBounds, Ne.symm h1]

theorem fill_step (place : Nat → Option (Nat × Nat)) (cells : Array Value) (i : Nat) (v : Value) (rest : List (Nat × Value)) {off n : Nat} (hp : place i = some (off, n)) (hn : v.cells.size = n) (hf : off + n ≤ cells.size) :
    Instr.fill place cells ((i, v) :: rest) = Instr.fill place (spliceV cells.toList off v.cells.toList).toArray rest := by
  have hb : ¬ (off + v.cells.size > cells.size) := by omega
  simp only [Instr.fill, hp]
  have h1 : (decide (v.cells.size ≠ n) || decide (off + v.cells.size > cells.size)) = false := by simp [hn]; omega
  rw [if_neg (by simpa using h1)]
  congr 1
  apply Array.ext'
  rw [← Array.foldl_toList, Array.toList_zipIdx]
  have := foldl_sets v.cells.toList off 0 cells (by simp; omega)
  simpa using this

theorem fillP_run {t : TypeId} {place : Nat → Option (Nat × Nat)} (hpl : ∀ i off n, placeOf P t i = some off → partSz P t i = some n → place i = some (off, n)) : ∀ {ps : List (Nat × AV)} {pv : List (Nat × Value)} {cs r : List AV} {cells : Array Value},
    All2 (fun (p : Nat × AV) (q : Nat × Value) => p.1 = q.1 ∧ VR G w look p.2 q.2) ps pv → All2 (CR G w look) cs cells.toList → fillP P t ps cs = some r → ∃ out, Instr.fill place cells pv = some out ∧ All2 (CR G w look) r out.toList
  | [], pv, cs, r, cells, hp, hc, h => by
    cases pv with
    | nil => simp [fillP] at h; subst h; exact ⟨cells, rfl, hc⟩
    | cons _ _ => exact hp.elim
  | (i, av) :: ps, pv, cs, r, cells, hp, hc, h => by
    cases pv with
    | nil => exact hp.elim
    | cons q pv =>
      obtain ⟨i', v⟩ := q
      obtain ⟨⟨e1, hv⟩, hp2⟩ := hp
      simp only at e1 hv
      subst e1
      simp only [fillP] at h
      split at h
      · rename_i off n vs h1 h2 h3
        split at h
        · rename_i hcond
          have hk := known_rel hv h3
          have hl := hk.length
          have hl2 := hc.length
          have hn : v.cells.size = n := by rw [← hcond.1, hl]; simp
          have hf : off + n ≤ cells.size := by simp at hl2; omega
          rw [fill_step place cells i v pv (hpl i off n h1 h2) hn hf]
          exact fillP_run hpl hp2 (by simpa using hc.splice hk off (by omega)) h
        · simp at h
      · simp at h

theorem map_parts (h : Rel B w0 S0 G outs σ a w) (ps : Array (Nat × Operand)) : All2 (fun (p : Nat × AV) (q : Nat × Value) => p.1 = q.1 ∧ VR G w (lks σ) p.2 q.2) (ps.toList.map fun p => (p.1, ev σ.tm p.2)) (ps.map fun (i, x) => (i, a.eval x)).toList := by
  rw [Array.toList_map]
  generalize ps.toList = l
  induction l with
  | nil => trivial
  | cons p r ih => exact ⟨⟨rfl, ev_rel h p.2⟩, ih⟩

theorem op_build (h : Rel B w0 S0 G outs σ a w) {t : TypeId} {ps : Array (Nat × Operand)} (ho : o.op = .build t ps) {zs cs : List AV} (hz : zeroCs P t = some zs) (hb : buildOk P t = true) (hf : fillP P t (ps.toList.map fun p => (p.1, ev σ.tm p.2)) zs = some cs)
    {e : Eff} (he : one (.agg cs) = some e) : OpOK P B w0 S0 outs σ a w o e := by
  rw [one_eq he]
  obtain ⟨z, hzr, hza⟩ := zero_run hz
  have hi : ∃ i, P.info? t = some i ∧ i.zero = some z := by
    have := hzr w
    unfold zeroCs at hz
    cases hi : P.info? t with
    | none => simp [hi] at hz
    | some i =>
      refine ⟨i, rfl, ?_⟩
      cases hzz : i.zero with
      | none => simp [hi, hzz] at hz
      | some z' => simp [zeroValue, typeInfo, hi, hzz] at this; rw [this]
  obtain ⟨i, hi, hiz⟩ := hi
  have key : ∃ out, P.built t (ps.map fun (i, x) => (i, a.eval x)).toList = some out ∧ All2 (CR G w (lks σ)) cs out.toList := by
    unfold buildOk at hb
    cases hu : P.underlying t with
    | none => simp [hu] at hb
    | some d =>
      rw [hu] at hb
      cases d <;> simp only at hb <;> try (simp at hb; done)
      case array m el =>
        obtain ⟨ie, hie⟩ := Option.isSome_iff_exists.1 hb
        have hplace : ∀ i off n, placeOf P t i = some off → partSz P t i = some n → (fun i => some (i * ie.size, ie.size)) i = some (off, n) := by
          intro i off n h1 h2
          simp [placeOf, hu, szOf, hie] at h1
          simp [partSz, hu, szOf, hie] at h2
          subst h1; subst h2; rfl
        obtain ⟨out, ho1, ho2⟩ := fillP_run (place := fun i => some (i * ie.size, ie.size)) hplace (map_parts h ps) (hza G w _) hf
        refine ⟨out, ?_, ho2⟩
        simp only [Program.built, hi, hu, hiz, hie]
        exact ho1
      case struct fs =>
        have hmap : ∀ (l : List Field), (l.all fun f => (P.info? f.type).isSome) = true → l.mapM (fun f => (P.info? f.type).map fun i => (f.offset, i.size)) = some (l.map fun f => (f.offset, szOf P f.type)) := by
          intro l
          induction l with
          | nil => intro _; rfl
          | cons f r ih =>
            intro hl
            simp only [List.all_cons, Bool.and_eq_true] at hl
            obtain ⟨i', hi'⟩ := Option.isSome_iff_exists.1 hl.1
            simp [List.mapM_cons, hi', ih hl.2, szOf]
        have hm := hmap fs.toList hb
        have hplace : ∀ i off n, placeOf P t i = some off → partSz P t i = some n → (fun (i : Nat) => (fs.toList.map fun f => (f.offset, szOf P f.type)).toArray[i]?) i = some (off, n) := by
          intro i off n h1 h2
          simp only [placeOf, hu] at h1
          simp only [partSz, hu] at h2
          cases hfi : fs[i]? with
          | none => simp [hfi] at h1
          | some fd =>
            simp [hfi] at h1 h2
            simp [hfi, h1, h2]
        obtain ⟨out, ho1, ho2⟩ := fillP_run hplace (map_parts h ps) (hza G w _) hf
        refine ⟨out, ?_, ho2⟩
        simp only [Program.built, hi, hu, hiz, hm]
        exact ho1
  obtain ⟨out, hb1, hb2⟩ := key
  refine op_pure h (v := .agg out) ⟨out, rfl, hb2⟩ ?_
  unfold execOp
  simp only [ho, Sem.run_bind, run_build w t _ out hb1, Result.andThen_ok, Sem.run_pure]

/-! ### many zero elements -/
theorem madeCells_drn {S : Cells} {s : Sch} {z : s.D} {zc : Array Value} (hd : DR S w s z zc.toList) (hpos : 0 < s.size) (n : Nat) : DRN S w s (List.replicate n z) (madeCells zc (n * s.size)).toList := by
  have hl : zc.size = s.size := by have := hd.length; simpa using this
  refine ⟨by simp [size_madeCells], fun i x hx => ?_⟩
  have hi : i < n := by
    rcases Nat.lt_or_ge i n with h1 | h1
    · exact h1
    · rw [List.getElem?_eq_none (by simpa using h1)] at hx; simp at hx
  have hxz : x = z := by
    rw [List.getElem?_replicate, if_pos hi] at hx
    simpa using hx.symm
  subst hxz
  have hlt : i * s.size + s.size ≤ n * s.size := by
    have : (i + 1) * s.size ≤ n * s.size := Nat.mul_le_mul_right _ hi
    rwa [Nat.add_mul, Nat.one_mul] at this
  have e : (((madeCells zc (n * s.size)).toList.drop (i * s.size)).take s.size) = zc.toList := by
    apply List.ext_getElem?
    intro j
    rw [List.getElem?_take, List.getElem?_drop]
    by_cases hj : j < s.size
    · rw [if_pos hj]
      have h1 : i * s.size + j < n * s.size := by omega
      have h2 : (i * s.size + j) % zc.size = j := by
        rw [hl, Nat.add_comm, Nat.add_mul_mod_self_right, Nat.mod_eq_of_lt hj]
      have h3 : j < zc.size := by omega
      simp [madeCells, h1, h2, h3, getElem!_pos]
    · rw [if_neg hj, List.getElem?_eq_none (by simp; omega)]
  rw [e]
  exact hd

/-- The zero value of an element. -/
theorem zero_dr {e : TypeId} {zs : List AV} {z : (sch P e).D} (hz : zeroCs P e = some zs) (hd : (sch P e).dec zs = some (z, [])) : ∃ (i : TypeInfo) (v : Value), P.info? e = some i ∧ i.zero = some v ∧ (∀ w : World, (zeroValue e).run P w = .ok v w) ∧ ∀ (S : Cells) (w : World), DR S w (sch P e) z v.cells.toList := by
  obtain ⟨v, hzr, hza⟩ := zero_run hz
  have := hzr (default : World)
  unfold zeroCs at hz
  cases hi : P.info? e with
  | none => simp [hi] at hz
  | some i =>
    cases hzz : i.zero with
    | none => simp [hi, hzz] at hz
    | some z' =>
      simp [zeroValue, typeInfo, hi, hzz] at this
      subst this
      exact ⟨i, z', rfl, hzz, hzr, fun S w => dec_all (hza { S := S, M := fun _ => none } w (fun _ => none)) hd⟩

end
end Go.Pi
end

section
namespace Go.Pi
open Go.RowKit
set_option linter.unusedSimpArgs false
set_option linter.unusedVariables false

section
variable {P : Program} {B : Nat → Prop} {w0 : World} {S0 : Cells} {G G' : Gh} {outs : Outs} {σ : St} {a : Act} {w w' : World} {o : Oper} {look : Look}

/-- Nothing named is turned. -/
theorem Rel.still (h : Rel B w0 S0 G outs σ a w) (hY : G'.Y = G.Y) (hk : Keeps G.S w G'.S w') (hM : G'.M = G.M)
    (hblk : ∀ p ob b c, lk p σ.sto = some ob → G.M p = some (b, c) → w'.heap[b]? = w.heap[b]? ∧ ∀ off, G'.S b off → G.S b off)
    (below : Bel B w0 w') (bsz : ∀ b, B b → b < w'.heap.size)
    (snew : ∀ b off, G'.S b off → G.S b off ∨ ¬ B b) (slt : ∀ b off, G'.S b off → b < w'.heap.size) : Rel B w0 S0 G' outs σ a w' := by
  have hx : Ext G w (lks σ) G' w' (lks σ) := Ext.same hY hk (fun p ob hp => by rw [hM]) fun p ob b c hp hb => (hblk p ob b c hp hb).1
  refine ⟨below, bsz, fun b off hs => (hk b off (h.s0 b off hs)).1, fun b off hs => ?_, slt, h.tml, fun t => VR.ext hx (h.tm t),
    h.outl.imp fun _ _ hl => ⟨hl.1, fun t => VR.ext hx (hl.2 t)⟩, fun p ob hp => ObR.ext hx (by rw [hM]) (fun b c hb => hblk p ob b c hp hb) (fun b off hs => (hk b off hs).1) (h.obj p ob hp), fun p p' ob ob' b c c' hp hp' hb hb' => ?_, hY.trans h.yeq⟩
  · rcases snew b off hs with h1 | h1
    · exact h.snew b off h1
    · exact .inr h1
  · rw [hM] at hb hb'
    exact h.inj p p' ob ob' b c c' hp hp' hb hb'

theorem Rel.drew (h : Rel B w0 S0 G outs σ a w) : Rel B w0 S0 G outs σ a w.drew :=
  h.still (G' := G) rfl (fun b o hs => ⟨hs, rfl⟩) rfl (fun _ _ _ _ _ _ => ⟨rfl, fun _ h => h⟩) h.below.drew h.bsz (fun _ _ h => .inl h) h.slt

/-- Marks on a new block's first cells. -/
def addS (S : Cells) (b k : Nat) : Cells := fun b' o => S b' o ∨ (b' = b ∧ o < k)

theorem keeps_new (h : Rel B w0 S0 G outs σ a w) (ob : Obj) (k : Nat) : Keeps G.S w (addS G.S w.heap.size k) (w.alloc ob) :=
  fun b o hS => ⟨.inl hS, World.cell?_alloc_lt w _ _ (h.slt b o hS)⟩

/-- The elements of a new block. -/
theorem elr_new {S : Cells} {s : Sch} {xs : List s.D} {vs : Array Value} {ty : TypeId} {k : Nat} (hk : Keeps S w (addS S w.heap.size k) (w.alloc (.cells vs ty))) (hd : DRN S w s xs (vs.toList.take (xs.length * s.size))) (hkk : k = xs.length * s.size) :
    ElR (addS S w.heap.size k) (w.alloc (.cells vs ty)) s xs w.heap.size 0 := by
  intro i x hx
  obtain ⟨ws, h1, h2⟩ := hd.get i x hx
  refine ⟨ws, DR.mono hk h1, fun j v hv => ?_⟩
  have h3 := h2 j v hv
  rw [List.getElem?_take] at h3
  split at h3
  · rename_i hlt
    refine ⟨.inr ⟨rfl, by omega⟩, ?_⟩
    rw [Nat.zero_add, cell_of_block (heap_new w _)]
    simpa using h3
  · simp at h3

/-- A new slice that nobody will turn. -/
theorem Rel.newFrozen (h : Rel B w0 S0 G outs σ a w) {s : Sch} {xs : List s.D} {vs : Array Value} {ty : TypeId} {cap : Nat} (hd : DRN G.S w s xs (vs.toList.take (xs.length * s.size))) (hle : xs.length ≤ cap) (hmx : cap ≤ 9223372036854775807) (ex : Bool) (hex : ex = true → cap = xs.length) :
    Rel B w0 S0 { G with S := addS G.S w.heap.size (xs.length * s.size) } outs σ a (w.alloc (.cells vs ty)) ∧
      VR { G with S := addS G.S w.heap.size (xs.length * s.size) } (w.alloc (.cells vs ty)) (lks σ) (.sl ex s xs) (.slice (some ⟨w.heap.size, 0, none⟩) xs.length cap) := by
  have hk := keeps_new h (.cells vs ty) (xs.length * s.size)
  refine ⟨h.still rfl hk rfl (fun p ob b c hp hb => ?_) (h.below.alloc h.bsz _) (fun b hb => by simp; exact Nat.lt_succ_of_lt (h.bsz b hb)) (fun b off hS => ?_) (fun b off hS => ?_), ⟨_, cap, rfl, hle, hmx, fun _ => ⟨w.heap.size, 0, rfl, elr_new hk hd rfl⟩⟩, fun e => ⟨_, by rw [hex e]⟩⟩
  · have hlt := (h.obj p ob hp).lt hb
    refine ⟨Below.heap_alloc w _ b hlt, fun off hS => ?_⟩
    rcases hS with hS | ⟨e, _⟩
    · exact hS
    · omega
  · rcases hS with hS | ⟨e, _⟩
    · exact .inl hS
    · exact .inr (e ▸ h.fresh)
  · rcases hS with hS | ⟨e, _⟩
    · simp; exact Nat.lt_succ_of_lt (h.slt b off hS)
    · subst e; simp

/-- An object in a new block. -/
theorem Rel.moveOb (h : Rel B w0 S0 G outs σ a w) {site k : Nat} (ob : Ob) (vs : Array Value) (ty : TypeId) (cap : Nat) (dt' dob' : List Nat)
    (hT : Turn G { G with S := addS G.S w.heap.size k, M := fun p => if p = site then some (w.heap.size, cap) else G.M p } site ob (lk site σ.sto))
    (hnew : Keeps G.S w (addS G.S w.heap.size k) (w.alloc (.cells vs ty)) → ∀ look' : Look, ObR B { G with S := addS G.S w.heap.size k, M := fun p => if p = site then some (w.heap.size, cap) else G.M p } (w.alloc (.cells vs ty)) look' site ob) :
    Rel B w0 S0 { G with S := addS G.S w.heap.size k, M := fun p => if p = site then some (w.heap.size, cap) else G.M p } outs { σ with sto := ups site ob σ.sto, dt := dt', dob := dob' } a (w.alloc (.cells vs ty)) := by
  have hk := keeps_new h (.cells vs ty) k
  have hM : ∀ p ob', p ≠ site → lk p σ.sto = some ob' → (if p = site then some (w.heap.size, cap) else G.M p) = G.M p := fun p _ e _ => by simp [e]
  refine h.upd1 (G' := { G with S := addS G.S w.heap.size k, M := fun p => if p = site then some (w.heap.size, cap) else G.M p }) rfl site ob dt' dob' hk hM (fun p ob' b c e hp hb => ?_) hT
    (hnew hk _) (fun p ob' b c c' e hp hb hb' => ?_) (h.below.alloc h.bsz _) (fun b hb => by simp; exact Nat.lt_succ_of_lt (h.bsz b hb)) (fun b off hS => ?_) (fun b off hS => ?_)
  · have hlt := (h.obj p ob' hp).lt hb
    refine ⟨Below.heap_alloc w _ b hlt, fun off hS => ?_⟩
    rcases hS with hS | ⟨e, _⟩
    · exact hS
    · omega
  · simp at hb'
    have := (h.obj p ob' hp).lt hb
    omega
  · rcases hS with hS | ⟨e, _⟩
    · exact .inl hS
    · exact .inr (e ▸ h.fresh)
  · rcases hS with hS | ⟨e, _⟩
    · simp; exact Nat.lt_succ_of_lt (h.slt b off hS)
    · subst e; simp

def growK (m : Mode) (n : Nat) : Nat := match m with
  | .grow => n
  | _ => 0

/-- .. with the elements told. -/
theorem arr_new {S : Cells} {Y : Nat → Option Nat} {M : Nat → Option (Nat × Nat)} {site ver k : Nat} {m : Mode} {s : Sch} {xs : List s.D} {vs : Array Value} {ty : TypeId} {cap : Nat} (hB : ¬ B w.heap.size) (hslt : ∀ b o, S b o → b < w.heap.size) (hpos : 0 < s.size) (hfix : m.fix = none)
    (hsz : vs.size = cap * s.size) (hle : xs.length ≤ cap) (hmx : cap ≤ 9223372036854775807) (hd : DRN S w s xs (vs.toList.take (xs.length * s.size))) (hkk : k = growK m (xs.length * s.size))
    (hk : Keeps S w (addS S w.heap.size k) (w.alloc (.cells vs ty))) (look' : Look) : ObR B { S := addS S w.heap.size k, M := fun p => if p = site then some (w.heap.size, cap) else M p, Y := Y } (w.alloc (.cells vs ty)) look' site (.arr m ver s xs) := by
  refine ⟨hpos, ?_⟩
  simp only [if_pos]
  refine ⟨hB, vs, ty, heap_new w _, hsz, hle, fun _ => hmx, fun q e => by rw [hfix] at e; simp at e, fun i x hxi => ?_, fun off hs => ?_, fun e off ho => ?_⟩
  · obtain ⟨ws, h1, h2⟩ := hd.get i x hxi
    refine ⟨ws, DR.mono hk h1, fun j v hv => ?_⟩
    have h3 := h2 j v hv
    rw [List.getElem?_take] at h3
    split at h3
    · simpa using h3
    · simp at h3
  · rcases hs with hs | ⟨_, hs⟩
    · have := hslt _ _ hs; omega
    · subst hkk
      cases m with
      | grow => exact ⟨rfl, hs⟩
      | uniq => simp [growK] at hs
      | fixed q => simp [growK] at hs
  · subst e
    exact .inr ⟨rfl, by rw [hkk]; exact ho⟩

theorem DRN.mono {S S' : Cells} {w w' : World} (hk : Keeps S w S' w') {s : Sch} {xs : List s.D} {vs : List Value} (h : DRN S w s xs vs) : DRN S' w' s xs vs := ⟨h.1, fun i x hx => DR.mono hk (h.2 i x hx)⟩

theorem drn_take {S : Cells} {s : Sch} {xs : List s.D} {vs : List Value} (h : DRN S w s xs vs) (r : List Value) : DRN S w s xs ((vs ++ r).take (xs.length * s.size)) := by
  have : (vs ++ r).take (xs.length * s.size) = vs := by rw [← h.1]; exact List.take_left
  rw [this]; exact h

/-! ### build -/
theorem tyv_cells {S : Cells} {t : Ty} {x : t.2.D} {v : Value} (h : TyV S w t x v) : DR S w t.2 x v.cells.toList := by
  obtain ⟨ag, s⟩ := t
  cases ag with
  | true => obtain ⟨vs, rfl, hd⟩ := h; simpa [Value.cells] using hd
  | false =>
    have h1 : DR S w s x [v] := h
    have h2 := DR.leaf h1 v (by simp)
    rw [Leaf.cells h2]
    exact h1

theorem setParts_run (hobj : ∀ o ob, look o = some ob → ObR B G w look o ob) {ag : Bool} {s : Sch} : ∀ {ps : List (Nat × AV)} {pv : List (Nat × Value)} {xs ys : List s.D} {cells : Array Value},
    All2 (fun (p : Nat × AV) (q : Nat × Value) => p.1 = q.1 ∧ VR G w look p.2 q.2) ps pv → DRN G.S w s xs cells.toList → setParts look ag s ps xs = some ys →
    ∃ out : Array Value, Instr.fill (fun i => some (i * s.size, s.size)) cells pv = some out ∧ DRN G.S w s ys out.toList ∧ ys.length = xs.length
  | [], pv, xs, ys, cells, hp, hc, h => by
    cases pv with
    | nil => simp [setParts] at h; subst h; exact ⟨cells, rfl, hc, rfl⟩
    | cons _ _ => exact hp.elim
  | (i, av) :: ps, pv, xs, ys, cells, hp, hc, h => by
    cases pv with
    | nil => exact hp.elim
    | cons q pv =>
      obtain ⟨i', v⟩ := q
      obtain ⟨⟨e1, hv⟩, hp2⟩ := hp
      simp only at e1 hv
      subst e1
      simp only [setParts] at h
      split at h
      · rename_i x hx
        split at h
        · rename_i hi
          have hd := tyv_cells (decTy_rel hobj hv hx)
          have hl := hd.length
          simp only [Array.length_toList] at hl
          have hcl := hc.1
          simp only [Array.length_toList] at hcl
          have hlt : i * s.size + s.size ≤ xs.length * s.size := by
            have : (i + 1) * s.size ≤ xs.length * s.size := Nat.mul_le_mul_right _ hi
            rwa [Nat.add_mul, Nat.one_mul] at this
          rw [fill_step _ cells i v pv rfl hl (by omega)]
          have hset := hc.set (off := 0) (ws := v.cells.toList) hi (by simp; omega) (by
            rw [spliceV_all (by simp; omega)]; exact hd)
          rw [Nat.add_zero] at hset
          obtain ⟨out, h1, h2, h3⟩ := setParts_run hobj (cells := (spliceV cells.toList (i * s.size) v.cells.toList).toArray) hp2 (by simpa using hset) h
          exact ⟨out, h1, h2, by simpa using h3⟩
        · simp at h
      · simp at h

theorem buildSlice_run (h : Rel B w0 S0 G outs σ a w) {t el : TypeId} {len : Nat} {ps : Array (Nat × Operand)} (ho : o.op = .buildSlice t len ps) (hu : P.underlying t = some (.slice el)) {zs : List AV} (hz : zeroCs P el = some zs) {z : (sch P el).D} (hd : (sch P el).dec zs = some (z, []))
    (hel : elOk P el = true) (hpos : 0 < szOf P el) (hlen : len * szOf P el ≤ 16777216) {xs : List (sch P el).D} (hs : setParts (lks σ) (isAggT P el) (sch P el) (ps.toList.map fun p => (p.1, ev σ.tm p.2)) (List.replicate len z) = some xs) :
    ∃ vs : Array Value, xs.length = len ∧ vs.size = len * (sch P el).size ∧ DRN G.S w (sch P el) xs vs.toList ∧ (execOp a.eval o).run P w = .ok (.value (.slice (some ⟨w.heap.size, 0, none⟩) len len)) (w.alloc (.cells vs el)) := by
  obtain ⟨hinf, hsz⟩ := elOk_parts hel
  obtain ⟨i, zv, hi, hiz, hzr, hzd⟩ := zero_dr hz hd
  have hmade := madeCells_drn (hzd G.S w) (by omega) len
  obtain ⟨out, h1, h2, h3⟩ := setParts_run h.obj (map_parts h ps) hmade hs
  have hxl : xs.length = len := by rw [h3]; simp
  refine ⟨out, hxl, by have := h2.1; simpa [hxl] using this, h2, ?_⟩
  have hn1 : ¬ (len * szOf P el > 2 ^ 24) := by omega
  rw [hsz] at h1
  unfold execOp
  simp only [ho, Instr.buildSlice, Sem.run_bind, run_underlying hu w, Result.andThen_ok, size_run hinf w, if_neg hn1, Sem.run_pure, Sem.run_ite]
  by_cases hz0 : len * szOf P el = 0
  · simp only [hz0, if_true, Sem.run_pure, Result.andThen_ok]
    have hme : madeCells zv.cells (len * szOf P el) = (Array.range 0).map (fun j => (#[] : Array Value)[j % (#[] : Array Value).size]!) := by rw [hz0]; simp [madeCells, Array.range_zero']
    rw [hme] at h1
    rw [h1]
    simp [newRow]
  · simp only [if_neg hz0, Sem.run_bind, hzr, Result.andThen_ok, Sem.run_pure]
    rw [show (Array.map (fun x => zv.cells[x % zv.cells.size]!) (Array.range (len * szOf P el))) = madeCells zv.cells (len * szOf P el) from rfl, h1]
    simp [newRow]

theorem op_buildSlice (h : Rel B w0 S0 G outs σ a w) {t el : TypeId} {len : Nat} {ps : Array (Nat × Operand)} (ho : o.op = .buildSlice t len ps) (hu : P.underlying t = some (.slice el)) {zs : List AV} (hz : zeroCs P el = some zs) {z : (sch P el).D} (hd : (sch P el).dec zs = some (z, []))
    (hel : elOk P el = true) (hpos : 0 < szOf P el) (hlen : len * szOf P el ≤ 16777216) {xs : List (sch P el).D} (hs : setParts (lks σ) (isAggT P el) (sch P el) (ps.toList.map fun p => (p.1, ev σ.tm p.2)) (List.replicate len z) = some xs)
    {e : Eff} (he : one (.sl true (sch P el) xs) = some e) : OpOK P B w0 S0 outs σ a w o e := by
  rw [one_eq he]
  obtain ⟨vs, hxl, hvl, hdn, hrun⟩ := buildSlice_run h ho hu hz hd hel hpos hlen hs
  have hle : len ≤ len * szOf P el := Nat.le_mul_of_pos_right _ hpos
  obtain ⟨hR, hV⟩ := h.newFrozen (ty := el) (cap := len) (by have := drn_take hdn []; rwa [List.append_nil] at this) (by omega) (by omega) true (fun _ => hxl.symm)
  rw [hxl] at hV hR
  exact .inl ⟨_, _, _, .inl hrun, hR.put o.dst (av := .sl true (sch P el) xs) hV, rfl⟩

theorem op_buildSliceOwn (h : Rel B w0 S0 G outs σ a w) {t el : TypeId} {len : Nat} {ps : Array (Nat × Operand)} (ho : o.op = .buildSlice t len ps) (hu : P.underlying t = some (.slice el)) {zs : List AV} (hz : zeroCs P el = some zs) {z : (sch P el).D} (hd : (sch P el).dec zs = some (z, []))
    (hel : elOk P el = true) (hpos : 0 < szOf P el) (hlen : len * szOf P el ≤ 16777216) {xs : List (sch P el).D} (hs : setParts (lks σ) (isAggT P el) (sch P el) (ps.toList.map fun p => (p.1, ev σ.tm p.2)) (List.replicate len z) = some xs)
    {site : Nat} (hsite : lk site σ.sto = none) : OpOK P B w0 S0 outs σ a w o ⟨true, true, none, .ref site 0, [(site, .arr .uniq 0 (sch P el) xs)]⟩ := by
  obtain ⟨vs, hxl, hvl, hdn, hrun⟩ := buildSlice_run h ho hu hz hd hel hpos hlen hs
  obtain ⟨hinf, hsz⟩ := elOk_parts hel
  have hle : len ≤ len * szOf P el := Nat.le_mul_of_pos_right _ hpos
  have hR := h.moveOb (site := site) (k := 0) (.arr .uniq 0 (sch P el) xs) vs el len σ.dt (site :: σ.dob) (by rw [hsite]; trivial)
    (fun hk look' => arr_new (k := 0) (m := .uniq) (ver := 0) (xs := xs) (ty := el) h.fresh h.slt (by omega) rfl hvl (by omega) (by omega) (by have := drn_take hdn []; rwa [List.append_nil] at this) rfl hk look')
  refine .inl ⟨_, _, _, .inl hrun, hR.put o.dst (av := .ref site 0) ?_, rfl⟩
  exact ⟨trivial, .uniq, 0, sch P el, xs, by simp [lks, lk_ups], rfl, Nat.le_refl _, fun _ => by simp [RefV, hxl]⟩

theorem op_makeSlice (h : Rel B w0 S0 G outs σ a w) {t el : TypeId} {x y : Operand} (ho : o.op = .makeSlice t x y) (hu : P.underlying t = some (.slice el)) {n c : Int} (hx : ev σ.tm x = .int .i64 n) (hy : ev σ.tm y = .int .i64 c) {zs : List AV} (hz : zeroCs P el = some zs) {z : (sch P el).D} (hd : (sch P el).dec zs = some (z, []))
    (hel : elOk P el = true) (hpos : 0 < szOf P el) (hby : 0 < bytesOfT P el) {site : Nat} (hsite : lk site σ.sto = none) {e : Eff} (hc : e.chk = true)
    (he : some (⟨decide (0 ≤ n) && decide (n = c) && roomOk n.toNat (bytesOfT P el), true, none, .ref site 0, [(site, .arr .uniq 0 (sch P el) (List.replicate n.toNat z))]⟩ : Eff) = some e) : OpOK P B w0 S0 outs σ a w o e := by
  obtain rfl := Option.some.inj he
  simp only [Bool.and_eq_true, decide_eq_true_eq, roomOk] at hc
  obtain ⟨⟨h0, rfl⟩, hroom⟩ := hc
  obtain ⟨hinf, hsz⟩ := elOk_parts hel
  obtain ⟨i, zv, hi, hiz, hzr, hzd⟩ := zero_dr hz hd
  have hbi : bytesOfT P el = i.bytes := by simp [bytesOfT, hi]
  have hsi : szOf P el = i.size := by simp [szOf, hi]
  have hle : n.toNat ≤ n.toNat * bytesOfT P el := Nat.le_mul_of_pos_right _ hby
  have h1 := ev_rel h x; rw [hx] at h1; have h1 := h1.int
  have h2 := ev_rel h y; rw [hy] at h2; have h2 := h2.int
  have hb : (i.bytes : Int) * n ≤ 281474976710656 := by
    have hb2 : ((i.bytes * n.toNat : Nat) : Int) ≤ 281474976710656 := by rw [← hbi, Nat.mul_comm]; omega
    rw [Int.natCast_mul] at hb2
    rwa [show ((n.toNat : Nat) : Int) = n by omega] at hb2
  have hr := run_make (P := P) w t el i zv hu hi hiz .i64 .i64 n n h0 (Int.le_refl _) hb (by omega)
  have hmade := madeCells_drn (hzd G.S w) (show 0 < (sch P el).size by omega) n.toNat
  rw [← hsi, ← hsz] at hr
  have hR := h.moveOb (site := site) (k := 0) (.arr .uniq 0 (sch P el) (List.replicate n.toNat z)) (madeCells zv.cells (n.toNat * (sch P el).size)) el n.toNat σ.dt (site :: σ.dob) (by rw [hsite]; trivial)
    (fun hk look' => arr_new (k := 0) (m := .uniq) (ver := 0) (xs := List.replicate n.toNat z) (ty := el) (s := sch P el) h.fresh h.slt (by omega) rfl (size_madeCells _ _) (by simp) (by omega) (by have := drn_take hmade []; rwa [List.append_nil] at this) rfl hk look')
  refine .inl ⟨.slice (some ⟨w.heap.size, 0, none⟩) n.toNat n.toNat, _, _, .inl ?_, hR.put o.dst (av := .ref site 0) ?_, rfl⟩
  · unfold execOp
    simp only [ho, h1, h2, Sem.run_bind, hr, Result.andThen_ok, Sem.run_pure]
  · exact ⟨trivial, .uniq, 0, sch P el, List.replicate n.toNat z, by simp [lks, lk_ups], rfl, Nat.le_refl _, fun _ => by simp [RefV]⟩

end
end Go.Pi
end

section
namespace Go.Pi
open Go.RowKit
set_option linter.unusedSimpArgs false
set_option linter.unusedVariables false

section
variable {P : Program} {B : Nat → Prop} {w0 : World} {S0 : Cells} {G G' : Gh} {outs : Outs} {σ : St} {a : Act} {w w' : World} {o : Oper} {look : Look}

theorem DRN.nil {S : Cells} {s : Sch} : DRN S w s [] [] := ⟨by simp, fun i x hx => by simp at hx⟩

theorem DRN.cons {S : Cells} {s : Sch} {x : s.D} {xs : List s.D} {ws vs : List Value} (h : DR S w s x ws) (h' : DRN S w s xs vs) : DRN S w s (x :: xs) (ws ++ vs) := by
  have hl := h.length
  refine ⟨by simp [hl, h'.1, Nat.add_mul]; omega, fun i y hy => ?_⟩
  cases i with
  | zero =>
    simp at hy; subst hy
    have : ((ws ++ vs).drop (0 * s.size)).take s.size = ws := by simp [← hl]
    rw [this]; exact h
  | succ i =>
    have h4 := h'.2 i y (by simpa using hy)
    have h5 : (i + 1) * s.size = ws.length + i * s.size := by rw [hl, Nat.add_mul]; omega
    have e3 : (ws ++ vs).drop ((i + 1) * s.size) = vs.drop (i * s.size) := by
      rw [h5, List.drop_append, List.drop_eq_nil_of_le (by omega)]
      simp
    rw [e3]; exact h4

theorem DRN.append {S : Cells} {s : Sch} : ∀ {xs ys : List s.D} {us vs : List Value}, DRN S w s xs us → DRN S w s ys vs → DRN S w s (xs ++ ys) (us ++ vs)
  | [], ys, us, vs, h, h' => by
    have : us = [] := List.eq_nil_of_length_eq_zero (by simpa using h.1)
    subst this
    exact h'
  | x :: xs, ys, us, vs, h, h' => by
    have h1 := h.2 0 x rfl
    simp only [Nat.zero_mul, List.drop_zero] at h1
    have h2 : DRN S w s xs (us.drop s.size) := by
      refine ⟨by rw [List.length_drop, h.1]; simp [Nat.add_mul], fun i y hy => ?_⟩
      have h3 := h.2 (i + 1) y (by simpa using hy)
      rw [List.drop_drop]
      rwa [show s.size + i * s.size = (i + 1) * s.size by rw [Nat.add_mul]; omega]
    have h3 := DRN.cons h1 (DRN.append h2 h')
    rwa [← List.append_assoc, List.take_append_drop] at h3

/-- The cells of a slice's elements. -/
theorem ElR.cells {S : Cells} {s : Sch} {b : Nat} : ∀ {xs : List s.D} {off : Nat}, ElR S w s xs b off → ∃ vs, DRN S w s xs vs ∧ ∀ (j : Nat) (v : Value), vs[j]? = some v → S b (off + j) ∧ w.cell? ⟨b, off + j, none⟩ = some v
  | [], off, h => ⟨[], DRN.nil, fun j v hv => by simp at hv⟩
  | x :: xs, off, h => by
    obtain ⟨ws, hd, hw⟩ := h 0 x rfl
    have h2 : ElR S w s xs b (off + s.size) := by
      intro i y hy
      obtain ⟨ws, hd, hw⟩ := h (i + 1) y (by simpa using hy)
      refine ⟨ws, hd, fun j v hv => ?_⟩
      have := hw j v hv
      rwa [show off + (i + 1) * s.size + j = off + s.size + i * s.size + j by rw [Nat.add_mul]; omega] at this
    obtain ⟨vs, h3, h4⟩ := h2.cells
    refine ⟨ws ++ vs, DRN.cons hd h3, fun j v hv => ?_⟩
    have hl := hd.length
    rcases Nat.lt_or_ge j ws.length with h5 | h5
    · rw [List.getElem?_append_left h5] at hv
      have := hw j v hv
      simpa using this
    · rw [List.getElem?_append_right h5] at hv
      have := h4 (j - ws.length) v hv
      rwa [show off + s.size + (j - ws.length) = off + j by omega] at this

/-- The first elements of a slice, seen as an array. -/
theorem ElR.front {G : Gh} {s : Sch} {b off : Nat} {xs : List s.D} {m : Nat} (h : ElR G.S w s xs b off) (hm : m ≤ xs.length) {s' : Sch} {d : s'.D} (hd : s'.dec (encN s xs m 0) = some (d, [])) : ElR G.S w s' [d] b off := by
  obtain ⟨vs, h1, h2⟩ := h.cells
  have h3 : All2 (CR G w (fun _ => none)) (encN s xs m 0) ((vs.drop (0 * s.size)).take (m * s.size)) := encN_rel trivial h1 m 0 (by omega)
  have h4 := dec_all h3 hd
  intro i x hx
  cases i with
  | succ i => simp at hx
  | zero =>
    simp only [List.getElem?_cons_zero, Option.some.injEq] at hx
    subst hx
    refine ⟨_, h4, fun j v hv => ?_⟩
    rw [Nat.zero_mul, List.drop_zero, List.getElem?_take] at hv
    split at hv
    · rw [Nat.zero_mul, Nat.add_zero]; exact h2 j v hv
    · cases hv

theorem DRN.leaf {S : Cells} {s : Sch} {xs : List s.D} {vs : List Value} (h : DRN S w s xs vs) : ∀ v ∈ vs, Leaf v := by
  have := encL_rel (G := { S := S, M := fun _ => none }) (look := fun _ => none) h
  intro v hv
  obtain ⟨i, hi⟩ := List.getElem?_of_mem hv
  obtain ⟨_, _, hc⟩ := this.get' i v hi
  exact hc.2

theorem one_of_leaf {v : Value} (h : Leaf v) : v.oneCell' = true := by cases v <;> first | rfl | exact h.elim

/-- What is appended. -/
theorem src_of {S : Cells} {s : Sch} {ys : List s.D} {tx e' : TypeId} {v : Value} (hk : P.underlying tx = some (.slice e')) (h : DR S w (.sl s) ys [v]) (hpos : 0 < s.size) :
    ∃ news, Src P s.size tx v ys.length news w ∧ DRN S w s ys news ∧ Builtin.lenOf v = Sem.pure ys.length ∧
      (0 < ys.length → ∃ b off cap, v = .slice (some ⟨b, off, none⟩) ys.length cap ∧ S b off ∧ Room.holdsV w ⟨b, off, none⟩ (ys.length * s.size) = true) := by
  obtain ⟨ad, cap, e1, hc, hmx, he⟩ := h
  simp at e1
  subst e1
  by_cases hp : 0 < ys.length
  · obtain ⟨b, off, rfl, hE⟩ := he hp
    obtain ⟨vs, hd, hv⟩ := ElR.cells hE
    have hvl := hd.1
    have hvp : 0 < vs.length := by rw [hvl]; exact Nat.mul_pos hp hpos
    refine ⟨vs, Src.ofSlice w hk ⟨b, off, none⟩ ys.length cap vs hvl (fun j u hu => by rw [addr_add]; exact (hv j u hu).2) (fun u hu => one_of_leaf (hd.leaf u hu)), hd, rfl, fun _ => ⟨b, off, cap, rfl, (hv 0 _ (List.getElem?_eq_getElem hvp)).1, ?_⟩⟩
    have hlast := (hv (vs.length - 1) _ (List.getElem?_eq_getElem (by omega))).2
    exact holdsV_of_last w b off (ys.length * s.size) (by omega) (by rw [← hvl, hlast]; rfl) _ (Nat.le_refl _)
  · have h0 : ys = [] := List.eq_nil_of_length_eq_zero (by omega)
    subst h0
    refine ⟨[], ?_, DRN.nil, rfl, fun h => by simp at h⟩
    cases ad with
    | none => exact Src.ofNil w hk cap
    | some x => exact Src.ofSlice w hk x 0 cap [] (by simp) (fun j u hu => by simp at hu) (fun u hu => by simp at hu)

/-- In place. -/
theorem append_fit {t tx ty e : TypeId} {i : TypeInfo} (ht : P.underlying t = some (.slice e)) (hi : P.info? e = some i) {g sLen sCap : Nat} {cur : Array Value} {te : TypeId} (hg : w.heap[g]? = some (.cells cur te (0, 0)))
    {x : Value} {n : Nat} {news : List Value} (hs : Src P i.size tx x n news w) (hroom : sLen + n ≤ sCap) (hfit : sLen * i.size + news.length ≤ cur.size) :
    (Builtin.append_ #[t, tx] ty #[.slice (some ⟨g, 0, none⟩) sLen sCap, x]).run P w = .ok (.slice (some ⟨g, 0, none⟩) (sLen + n) sCap) (w.setRow g (spliceV cur.toList (sLen * i.size) news).toArray) := by
  have hst := run_storeCells_at P g (sLen * i.size) te news 0 cur w hg (by simpa using hfit) hs.one
  simp only [Nat.add_zero] at hst
  rcases hs.kind with ⟨e', hk⟩ | hk <;> simp [Builtin.append_, run_underlying ht, run_underlying hk, sizeOf, typeInfo, hi, hs.len, hroom, hs.cells, Addr.add_lit, hst, spliceV]

theorem append_nil0 {t tx ty e : TypeId} {i : TypeInfo} (ht : P.underlying t = some (.slice e)) (hi : P.info? e = some i) {sCap : Nat}
    {x : Value} {news : List Value} (hs : Src P i.size tx x 0 news w) :
    (Builtin.append_ #[t, tx] ty #[.slice none 0 sCap, x]).run P w = .ok (.slice none 0 sCap) w := by
  rcases hs.kind with ⟨e', hk⟩ | hk <;> simp [Builtin.append_, run_underlying ht, run_underlying hk, sizeOf, typeInfo, hi, hs.len, hs.cells]

theorem append_keep {t tx ty e : TypeId} {i : TypeInfo} (ht : P.underlying t = some (.slice e)) (hi : P.info? e = some i) {ad : Option Addr} {n sCap : Nat} (hn : n ≤ sCap)
    {x : Value} {news : List Value} (hs : Src P i.size tx x 0 news w) :
    (Builtin.append_ #[t, tx] ty #[.slice ad n sCap, x]).run P w = .ok (.slice ad n sCap) w := by
  have hnl := hs.newsLen
  have : news = [] := List.eq_nil_of_length_eq_zero (by simpa using hnl)
  subst this
  rcases hs.kind with ⟨e', hk⟩ | hk <;> cases ad <;> simp [Builtin.append_, run_underlying ht, run_underlying hk, sizeOf, typeInfo, hi, hs.len, hs.cells, hn, storeCells]

end
end Go.Pi
end

section
namespace Go.Pi
open Go.RowKit
set_option linter.unusedSimpArgs false
set_option linter.unusedVariables false

section
variable {P : Program} {B : Nat → Prop} {w0 : World} {S0 : Cells} {G G' : Gh} {outs : Outs} {σ : St} {a : Act} {w w' : World} {o : Oper} {look : Look}

/-- What an append knows. -/
structure AppIn (P : Program) (S : Cells) (w : World) (t tx el : TypeId) (i : TypeInfo) (zv : Value) (ys : List (sch P el).D) (xv : Value) (news : List Value) : Prop where
  ht : P.underlying t = some (.slice el)
  htx : ∃ e', P.underlying tx = some (.slice e')
  hi : P.info? el = some i
  hz : i.zero = some zv
  sz : (sch P el).size = i.size
  zsz : zv.cells.size = i.size
  pos : 0 < i.size
  by0 : 0 < i.bytes
  src : Src P i.size tx xv ys.length news w
  drn : DRN S w (sch P el) ys news
  lenx : Builtin.lenOf xv = Sem.pure ys.length
  holds : 0 < ys.length → ∃ b off cap, xv = .slice (some ⟨b, off, none⟩) ys.length cap ∧ S b off ∧ Room.holdsV w ⟨b, off, none⟩ (ys.length * i.size) = true

theorem appIn (h : Rel B w0 S0 G outs σ a w) {t tx el e' : TypeId} {y : Operand} (ht : P.underlying t = some (.slice el)) (htx : P.underlying tx = some (.slice e')) (hel : elOk P el = true) (hpos : 0 < szOf P el) (hby : 0 < bytesOfT P el)
    (hz : (zeroCs P el).map (·.length) = some (szOf P el)) {ys : List (sch P el).D} (hy : asSl (lks σ) (sch P el) (ev σ.tm y) = some ys) : ∃ i zv news, bytesOfT P el = i.bytes ∧ AppIn P G.S w t tx el i zv ys (a.eval y) news := by
  obtain ⟨hinf, hsz⟩ := elOk_parts hel
  have hd : DR G.S w (.sl (sch P el)) ys [a.eval y] := decTy_rel h.obj (ev_rel h y) hy
  cases hzs : zeroCs P el with
  | none => simp [hzs] at hz
  | some zs =>
    simp [hzs] at hz
    obtain ⟨zv, hzr, hza⟩ := zero_run hzs
    have hrun := hzr w
    unfold zeroCs at hzs
    cases hi : P.info? el with
    | none => simp [hi] at hzs
    | some i =>
      have hs : szOf P el = i.size := by simp [szOf, hi]
      have hb : bytesOfT P el = i.bytes := by simp [bytesOfT, hi]
      cases hzz : i.zero with
      | none => simp [hi, hzz] at hzs
      | some z' =>
        simp [zeroValue, typeInfo, hi, hzz] at hrun
        subst hrun
        obtain ⟨news, h1, h2, h3, h4⟩ := src_of (P := P) htx hd (by omega)
        rw [hsz, hs] at h1 h4
        have hl := (hza G w (lks σ)).length
        exact ⟨i, z', news, hb, ht, ⟨e', htx⟩, hi, hzz, hsz.trans hs, by simp at hl; omega, by omega, by omega, h1, h2, h3, h4⟩

theorem DRN.drew {S : Cells} {s : Sch} {xs : List s.D} {vs : List Value} (h : DRN S w s xs vs) : DRN S w.drew s xs vs := DRN.mono (w := w) (w' := w.drew) (fun b o hs => ⟨hs, rfl⟩) h

/-- A new block. -/
theorem op_arrayOf (h : Rel B w0 S0 G outs σ a w) {t el : TypeId} {m : Nat} {x : Operand} (ho : o.op = .sliceToArrayPointer t x) (hu : P.underlying t = some (.array m el)) {xs : List (sch P el).D} (hx : asSl (lks σ) (sch P el) (ev σ.tm x) = some xs)
    {s' : Sch} {d : s'.D} (hd : s'.dec (encN (sch P el) xs m 0) = some (d, [])) (hm : 0 < m) {e : Eff} (hc : e.chk = true) (he : chk1 (decide (m ≤ xs.length)) (.pel s' [d] 0 0) = some e) : OpOK P B w0 S0 outs σ a w o e := by
  obtain rfl := chk1_eq he
  simp only [decide_eq_true_eq] at hc
  have hr : DR G.S w (.sl (sch P el)) xs [a.eval x] := decTy_rel h.obj (ev_rel h x) hx
  obtain ⟨ad, cap, e1, hc1, hmx, hE⟩ := hr
  simp at e1
  obtain ⟨b, off, had, hE2⟩ := hE (by omega)
  subst had
  refine op_pure h (v := .pointer (some ⟨b, off, none⟩)) ⟨by simp, b, off, ElR.front hE2 hc hd, by simp⟩ ?_
  unfold execOp
  simp only [ho, e1, Instr.arrayAt, Sem.run_bind, run_underlying hu w, Result.andThen_ok]
  rw [if_neg (by omega)]
  rfl

theorem app_grow {S : Cells} {t tx el ty : TypeId} {i : TypeInfo} {zv : Value} {ys : List (sch P el).D} {xv : Value} {news : List Value} (A : AppIn P S w t tx el i zv ys xv news) {base : Option Addr} {cap : Nat} {xs : List (sch P el).D} {olds : List Value} (ho : DRN S w (sch P el) xs olds)
    (hold : (Builtin.firstCells i.size xs.length (.slice base xs.length cap)).run P w.drew = .ok olds.toArray w.drew) (hlt : cap < xs.length + ys.length) (hfit : Builtin.nextslicecap (xs.length + ys.length) cap * i.bytes ≤ 281474976710656) :
    ∃ (vs : Array Value) (nc : Nat), (Builtin.append_ #[t, tx] ty #[.slice base xs.length cap, xv]).run P w = .ok (.slice (some ⟨w.heap.size, 0, none⟩) (xs.length + ys.length) nc) (w.drew.alloc (.cells vs el)) ∧ vs.size = nc * (sch P el).size ∧
      (xs ++ ys).length ≤ nc ∧ nc ≤ 9223372036854775807 ∧ DRN S w.drew (sch P el) (xs ++ ys) (vs.toList.take ((xs ++ ys).length * (sch P el).size)) ∧ lenOk (xs.length + ys.length) = true := by
  have hnb : (xs.length + ys.length) * i.bytes ≤ 281474976710656 := Nat.le_trans (Nat.mul_le_mul_right _ (le_nextslicecap hlt)) hfit
  have hneed : xs.length + ys.length ≤ (xs.length + ys.length) * i.bytes := Nat.le_mul_of_pos_right _ A.by0
  have hr := run_append_grow_src (P := P) w t tx ty el i zv A.ht A.hi A.hz base xs.length cap olds hold xv ys.length news A.src hlt (by omega) hfit
  have hge := grownCap_ge w (xs.length + ys.length) cap el
  have hcm := grownCap_le_maxLen w (xs.length + ys.length) cap el (by simp only [maxLen]; omega)
  have hdn := (ho.append A.drn).drew
  refine ⟨_, _, hr, ?_, by simpa using hge, by simp only [maxLen] at hcm; omega, ?_, by simp [lenOk]; omega⟩
  · have h1 := hdn.1
    simp only [Array.size_append, List.size_toArray, size_zeroCells, A.zsz, h1, List.length_append, A.sz, ← Nat.add_mul]
    congr 1
    omega
  · have := drn_take hdn (Builtin.zeroCells zv.cells (grownCap w (xs.length + ys.length) cap el - (xs.length + ys.length))).toList
    simpa using this

/-- No memory bears it. -/
theorem app_ask {S : Cells} {t tx el : TypeId} {i : TypeInfo} {zv : Value} {ys : List (sch P el).D} {news : List Value} {x y : Operand} (A : AppIn P S w t tx el i zv ys (a.eval y) news) (ho : o.op = .call { callee := .builtin .append, args := #[x, y], argTypes := #[t, tx] })
    {base : Option Addr} {n cap : Nat} (hx : a.eval x = .slice base n cap) (hlt : cap < n + ys.length) (hnc : n ≤ cap) (hbig : ¬ Builtin.nextslicecap (n + ys.length) cap * i.bytes ≤ 281474976710656)
    (hb : base = none ∧ n = 0 ∨ ∃ g cur te, base = some ⟨g, 0, none⟩ ∧ w.heap[g]? = some (.cells cur te (0, 0)) ∧ cur.size = cap * i.size ∧ ∀ off, ¬ S g off) : o.asks P a w := by
  obtain ⟨b, off, c, hxv, hS, hh⟩ := A.holds (by omega)
  have hm : (Builtin.mayShare i.size n ys.length base (a.eval y)).runT P w #[] = (.ok false w, #[]) := by
    rw [hxv]
    rcases hb with ⟨rfl, rfl⟩ | ⟨g, cur, te, rfl, hg, hcs, hno⟩
    · exact runT_mayShare_nil_cells w i.size ys.length _ c hh
    · exact runT_mayShare_own_cells w i.size n ys.length g cap cur te hg hnc hcs _ c (fun e => by simp only at e; subst e; exact hno _ hS) hh
  obtain ⟨e', htx⟩ := A.htx
  have hr := runT_append_beyond_any (P := P) w t tx o.type el i (.slice e') A.ht A.hi htx (by simp) base n cap ys.length (a.eval y) A.lenx hlt (by omega) hm
  refine asks_append_any w x y t tx ho (by rw [hx, hr]; simp) ?_
  rw [hx, ← Sem.runT_fst P _ w #[], hr]
  exact fun _ => ⟨by simp, by simp, fun _ => by simp⟩

theorem app_done {t tx : TypeId} {x y : Operand} {v : Value} {wv : World} (ho : o.op = .call { callee := .builtin .append, args := #[x, y], argTypes := #[t, tx] }) {xv : Value} (hx : a.eval x = xv)
    (hr : (Builtin.append_ #[t, tx] o.type #[xv, a.eval y]).run P w = .ok v wv) : Done P o a w v wv := by
  refine .inl ?_
  unfold execOp
  simp [ho, resolve, invoke, builtin, hx, hr]

/-- An object that lies in no block. -/
theorem Rel.noBlock (h : Rel B w0 S0 G outs σ a w) {site : Nat} {s : Sch} {m : Mode} {ver : Nat} (hpos : 0 < s.size) (hm : m.fix = none) (dt' dob' : List Nat)
    (hT : ∀ M', M' site = none → Turn G { G with M := M' } site (.arr m ver s []) (lk site σ.sto)) :
    Rel B w0 S0 { G with M := fun p => if p = site then none else G.M p } outs { σ with sto := ups site (.arr m ver s []) σ.sto, dt := dt', dob := dob' } a w := by
  refine h.upd1 (G' := { G with M := fun p => if p = site then none else G.M p }) rfl site _ dt' dob' (Keeps.refl _ _) (fun p ob e _ => by simp [e]) (fun p ob b c _ _ _ => ⟨rfl, fun _ h => h⟩) (hT _ (by simp)) ⟨hpos, by simp [ArrR, hm]⟩
    (fun p ob b c c' _ _ _ hb => by simp at hb) h.below h.bsz (fun _ _ h => .inl h) h.slt

theorem refV_ref {G : Gh} {look : Look} {ob ver n : Nat} {m : Mode} {s : Sch} {xs : List s.D} {v : Value} (hl : Leaf v) (hlk : look ob = some (.arr m ver s xs)) (hm : m.fix = none) (hn : xs.length = n) (hr : RefV (G.M ob) n v) : VR G w look (.ref ob ver) v :=
  ⟨hl, m, ver, s, xs, hlk, hm, Nat.le_refl _, fun _ => hn ▸ hr⟩

theorem op_append_nil (h : Rel B w0 S0 G outs σ a w) {t tx el e' : TypeId} {x y : Operand} (ho : o.op = .call { callee := .builtin .append, args := #[x, y], argTypes := #[t, tx] }) (ht : P.underlying t = some (.slice el)) (htx : P.underlying tx = some (.slice e')) (hel : elOk P el = true) (hpos : 0 < szOf P el) (hby : 0 < bytesOfT P el)
    (hz : (zeroCs P el).map (·.length) = some (szOf P el)) {ys : List (sch P el).D} (hy : asSl (lks σ) (sch P el) (ev σ.tm y) = some ys) (hx : ev σ.tm x = .nils) {site : Nat} (hsite : lk site σ.sto = none) {c : Bool} (hc : roomOk ys.length (bytesOfT P el) = true) :
    OpOK P B w0 S0 outs σ a w o ⟨c, true, none, .ref site 0, [(site, .arr .uniq 0 (sch P el) ys)]⟩ := by
  have hxv : a.eval x = .slice none 0 0 := by have := ev_rel h x; rw [hx] at this; exact this
  obtain ⟨i, zv, news, hb, A⟩ := appIn h ht htx hel hpos hby hz hy
  by_cases hm : ys.length = 0
  · have hy0 : ys = [] := List.eq_nil_of_length_eq_zero hm
    subst hy0
    have hR := h.noBlock (site := site) (s := sch P el) (m := .uniq) (ver := 0) (by have := A.sz; have := A.pos; omega) rfl σ.dt (site :: σ.dob) (fun M' _ => by rw [hsite]; trivial)
    refine .inl ⟨.slice none 0 0, w, _, app_done ho hxv (append_nil0 (ty := o.type) A.ht A.hi A.src), hR.put o.dst (av := .ref site 0) ?_, rfl⟩
    exact refV_ref (n := 0) (xs := ([] : List (sch P el).D)) (s := sch P el) (m := .uniq) trivial (by simp [lks, lk_ups]) rfl rfl (by simp [RefV])
  · by_cases hp : Builtin.nextslicecap (0 + ys.length) 0 * i.bytes ≤ 281474976710656
    · obtain ⟨vs, nc, hr, hvs, hle, hmx, hdn, hok⟩ := app_grow (ty := o.type) A (base := none) (cap := 0) (xs := []) (olds := []) DRN.nil (by simpa using run_firstCells_none (P := P) w.drew i.size 0 0 0) (by simp; omega) (by simpa using hp)
      simp only [List.nil_append, List.length_nil, Nat.zero_add] at hr hle hdn hok
      have hR := h.drew.moveOb (site := site) (k := 0) (.arr .uniq 0 (sch P el) ys) vs el nc σ.dt (site :: σ.dob) (by rw [hsite]; trivial)
        (fun hk look' => arr_new (w := w.drew) (k := 0) (m := .uniq) h.fresh h.slt (by have := A.sz; have := A.pos; omega) rfl hvs hle hmx hdn rfl hk look')
      refine .inl ⟨_, _, _, app_done ho hxv hr, hR.put o.dst (av := .ref site 0) ?_, rfl⟩
      exact refV_ref (n := ys.length) (xs := ys) (s := sch P el) (m := .uniq) trivial (by simp [lks, lk_ups]) rfl rfl (by simp [RefV])
    · exact (hp (by
        simp [roomOk, hb] at hc
        exact growslice_fits (by omega) (by simpa using hc))).elim

/-- Onto what is under construction. -/
theorem op_append_ref (h : Rel B w0 S0 G outs σ a w) {t tx el e' : TypeId} {x y : Operand} (ho : o.op = .call { callee := .builtin .append, args := #[x, y], argTypes := #[t, tx] }) (ht : P.underlying t = some (.slice el)) (htx : P.underlying tx = some (.slice e')) (hel : elOk P el = true) (hpos : 0 < szOf P el) (hby : 0 < bytesOfT P el)
    (hz : (zeroCs P el).map (·.length) = some (szOf P el)) {ys : List (sch P el).D} (hy : asSl (lks σ) (sch P el) (ev σ.tm y) = some ys) {ob ver : Nat} (hx : ev σ.tm x = .ref ob ver) {m : Mode} {xs : List (sch P el).D} (hob : lk ob σ.sto = some (.arr m ver (sch P el) xs)) (hmf : m.fix = none)
    {c : Bool} (hcr : roomOk (xs.length + ys.length) (bytesOfT P el) = true) :
    OpOK P B w0 S0 outs σ a w o ⟨c, true, none, .ref ob (ver + 1), [(ob, .arr m (ver + 1) (sch P el) (xs ++ ys))]⟩ := by
  have hxr := ev_rel h x
  rw [hx] at hxr
  obtain ⟨hleaf, m', ver', s', xs', hob', hmf', hle', hrv⟩ := hxr
  have hob2 : lk ob σ.sto = some (.arr m' ver' s' xs') := hob'
  rw [hob] at hob2
  simp only [Option.some.injEq, Ob.arr.injEq] at hob2
  obtain ⟨rfl, rfl, rfl, e2⟩ := hob2
  have e3 := eq_of_heq e2
  subst e3
  have hrv := hrv rfl
  obtain ⟨i, zv, news, hb, A⟩ := appIn h ht htx hel hpos hby hz hy
  have hps : 0 < (sch P el).size := by have := A.sz; have := A.pos; omega
  have hO := (h.obj ob _ hob).2
  have hturn : ∀ (M' : Nat → Option (Nat × Nat)) (S' : Cells) (zs : List (sch P el).D), Turn G { S := S', M := M', Y := G.Y } ob (.arr m (ver + 1) (sch P el) zs) (lk ob σ.sto) := fun M' S' zs => by
    rw [hob]
    exact ⟨m, ver + 1, zs, rfl, rfl, by omega, fun e => (e hmf).elim, fun e => by omega⟩
  -- a new block
  have grown : ∀ (base : Option Addr) (cap : Nat) (olds : List Value), a.eval x = .slice base xs.length cap → DRN G.S w (sch P el) xs olds → (Builtin.firstCells i.size xs.length (.slice base xs.length cap)).run P w.drew = .ok olds.toArray w.drew →
      cap < xs.length + ys.length → Builtin.nextslicecap (xs.length + ys.length) cap * i.bytes ≤ 281474976710656 → OpOK P B w0 S0 outs σ a w o ⟨c, true, none, .ref ob (ver + 1), [(ob, .arr m (ver + 1) (sch P el) (xs ++ ys))]⟩ := by
    intro base cap olds hxv hdo hfc hlt hfit
    obtain ⟨vs, nc, hr, hvs, hle, hmx, hdn, hok⟩ := app_grow (ty := o.type) A hdo hfc hlt hfit
    have hR := h.drew.moveOb (site := ob) (k := growK m ((xs ++ ys).length * (sch P el).size)) (.arr m (ver + 1) (sch P el) (xs ++ ys)) vs el nc σ.dt (ob :: σ.dob) (hturn _ _ _)
      (fun hk look' => arr_new (w := w.drew) (m := m) h.fresh h.slt hps hmf hvs hle hmx hdn rfl hk look')
    refine .inl ⟨_, _, _, app_done ho hxv hr, hR.put o.dst (av := .ref ob (ver + 1)) ?_, rfl⟩
    exact refV_ref (n := xs.length + ys.length) (xs := xs ++ ys) (s := sch P el) (m := m) trivial (by simp [lks, lk_ups]) hmf (by simp) (by simp [RefV])
  cases hM : G.M ob with
  | none =>
    rw [hM] at hrv hO
    obtain ⟨hxs, _⟩ := hO
    subst hxs
    obtain ⟨_, hxv⟩ := hrv
    by_cases hm : ys.length = 0
    · have hy0 : ys = [] := List.eq_nil_of_length_eq_zero hm
      subst hy0
      have hR := h.noBlock (site := ob) (s := sch P el) (m := m) (ver := ver + 1) hps hmf σ.dt (ob :: σ.dob) (fun M' _ => hturn _ _ _)
      refine .inl ⟨.slice none 0 0, w, _, app_done ho hxv (append_nil0 (ty := o.type) A.ht A.hi A.src), hR.put o.dst (av := .ref ob (ver + 1)) ?_, rfl⟩
      exact refV_ref (n := 0) (xs := ([] : List (sch P el).D)) (s := sch P el) (m := m) trivial (by simp [lks, lk_ups]) hmf rfl (by simp [RefV])
    · by_cases hp : Builtin.nextslicecap (0 + ys.length) 0 * i.bytes ≤ 281474976710656
      · exact grown none 0 [] hxv DRN.nil (by simpa using run_firstCells_none (P := P) w.drew i.size 0 0 0) (by simp; omega) (by simpa using hp)
      · exfalso
        apply hp
        simp [roomOk, hb] at hcr
        exact growslice_fits (by omega) (by simpa using hcr)
  | some q =>
    obtain ⟨b, cap⟩ := q
    rw [hM] at hrv hO
    simp only [RefV] at hrv
    obtain ⟨hB, cur, ty, hh, hsz, hle, hmx, hfx, hel', hS, hS2⟩ := hO
    have hmx := hmx hmf
    obtain ⟨cur', ty', hh', _, _, hdn⟩ := ArrR.drn (show ArrR G.S w B (some (b, cap)) m (sch P el) xs from ⟨hB, cur, ty, hh, hsz, hle, fun _ => hmx, hfx, hel', hS, hS2⟩)
    rw [hh] at hh'
    simp at hh'
    obtain ⟨rfl, rfl⟩ := hh'
    have hcell : ∀ j u, (cur.toList.take (xs.length * (sch P el).size))[j]? = some u → w.cell? (Addr.add ⟨b, 0, none⟩ j) = some u := fun j u hu => by
      rw [addr_add, Nat.zero_add, cell_of_block hh]
      rw [List.getElem?_take] at hu
      split at hu
      · simpa using hu
      · simp at hu
    by_cases hroom : xs.length + ys.length ≤ cap
    · have hnl := A.drn.1
      have hfit : xs.length * i.size + news.length ≤ cur.size := by
        rw [hnl, hsz, A.sz, ← Nat.add_mul]
        exact Nat.mul_le_mul_right _ hroom
      have hr := append_fit (ty := o.type) A.ht A.hi hh A.src hroom hfit
      have hfit' : xs.length * i.size + news.length ≤ cur.toList.length := by simpa using hfit
      -- the marks of the block
      have hkeep : ∀ k, Keeps G.S w (addS G.S b k) (w.setRow b (spliceV cur.toList (xs.length * i.size) news).toArray) := fun k b' o' hs => ⟨.inl hs, by
        by_cases e : b' = b
        · subst e
          have h2 := (hS o' hs).2
          rw [cell_of_block (setRow_heap w b' cur _ ty _ hh), cell_of_block hh]
          simp only [List.getElem?_toArray]
          rw [spliceV_get _ _ _ hfit', if_neg (by rw [A.sz] at h2; omega)]
          simp
        · exact cell_setRow_other w b _ _ (fun e' => e e')⟩
      have hk := hkeep (growK m ((xs ++ ys).length * (sch P el).size))
      have hnone : ∀ off, (b : Nat) = b → addS G.S b (growK m ((xs ++ ys).length * (sch P el).size)) b off → m = .grow ∧ off < (xs ++ ys).length * (sch P el).size := fun off _ hs => by
        rcases hs with hs | ⟨_, hs⟩
        · obtain ⟨h1, h2⟩ := hS off hs
          refine ⟨h1, Nat.lt_of_lt_of_le h2 (Nat.mul_le_mul_right _ (by simp))⟩
        · cases m with
          | grow => exact ⟨rfl, hs⟩
          | uniq => simp [growK] at hs
          | fixed q => simp [growK] at hs
      have hdnew : DRN G.S w (sch P el) (xs ++ ys) (cur.toList.take (xs.length * (sch P el).size) ++ news) := hdn.append A.drn
      have hR : Rel B w0 S0 { G with S := addS G.S b (growK m ((xs ++ ys).length * (sch P el).size)) } outs { σ with sto := ups ob (.arr m (ver + 1) (sch P el) (xs ++ ys)) σ.sto, dt := σ.dt, dob := ob :: σ.dob } a (w.setRow b (spliceV cur.toList (xs.length * i.size) news).toArray) := by
        refine h.upd1 (G' := { G with S := addS G.S b (growK m ((xs ++ ys).length * (sch P el).size)) }) rfl ob _ σ.dt (ob :: σ.dob) hk (fun _ _ _ _ => rfl) (fun p ob' b' c' e hp hb' => ?_) (hturn _ _ _) ⟨hps, ?_⟩ (fun p ob' b' c' c3 e hp hb' hb3 => e (h.inj p ob _ _ b' c' c3 hp hob hb' hb3))
          (bel_setRow h.below hB _) (by simpa using h.bsz) (fun b' o' hs => ?_) (fun b' o' hs => ?_)
        · have hne : b' ≠ b := fun e' => e (h.inj p ob _ _ b' c' cap hp hob hb' (e' ▸ hM))
          refine ⟨setRow_other w b b' _ hne, fun off hs => ?_⟩
          rcases hs with hs | ⟨e', _⟩
          · exact hs
          · exact (hne e').elim
        · simp only [hM]
          refine ⟨hB, _, ty, setRow_heap w b cur _ ty _ hh, ?_, by simpa using hroom, fun _ => hmx, fun q e => by rw [hmf] at e; simp at e, fun j z hj => ?_, fun off hs => hnone off rfl hs, fun e off ho' => ?_⟩
          · simp only [List.size_toArray, spliceV_length hfit']
            simpa using hsz
          · obtain ⟨us, hd1, hd2⟩ := hdnew.get j z hj
            refine ⟨us, DR.mono hk hd1, fun q u hu => ?_⟩
            have h5 := hd2 q u hu
            simp only [List.getElem?_toArray]
            rw [spliceV_get _ _ _ hfit']
            have hxl : (cur.toList.take (xs.length * (sch P el).size)).length = xs.length * i.size := by rw [hdn.1, A.sz]
            by_cases h6 : j * (sch P el).size + q < xs.length * i.size
            · rw [List.getElem?_append_left (by omega), List.getElem?_take] at h5
              rw [if_neg (by omega)]
              split at h5
              · exact h5
              · simp at h5
            · rw [List.getElem?_append_right (by omega), hxl] at h5
              have h7 : j * (sch P el).size + q - xs.length * i.size < news.length := by
                rcases Nat.lt_or_ge (j * (sch P el).size + q - xs.length * i.size) news.length with h8 | h8
                · exact h8
                · rw [List.getElem?_eq_none h8] at h5; simp at h5
              rw [if_pos (by omega)]
              exact h5
          · subst e
            exact .inr ⟨rfl, ho'⟩
        · rcases hs with hs | ⟨e, _⟩
          · exact .inl hs
          · exact .inr (e ▸ hB)
        · rcases hs with hs | ⟨e, _⟩
          · simpa using h.slt b' o' hs
          · subst e
            simpa using (Array.getElem?_eq_some_iff.1 hh).1
      refine .inl ⟨_, _, _, app_done ho hrv hr, hR.put o.dst (av := .ref ob (ver + 1)) ?_, rfl⟩
      exact refV_ref (n := xs.length + ys.length) (xs := xs ++ ys) (s := sch P el) (m := m) trivial (by simp [lks, lk_ups]) hmf (by simp) (by simp [RefV, hM])
    · have hfc := run_firstCells_some (P := P) w.drew i.size xs.length ⟨b, 0, none⟩ xs.length cap (cur.toList.take (xs.length * (sch P el).size)) (by rw [hdn.1, A.sz]) (by simpa using hcell)
      by_cases hp : Builtin.nextslicecap (xs.length + ys.length) cap * i.bytes ≤ 281474976710656
      · exact grown _ cap _ hrv hdn hfc (by omega) hp
      · exfalso
        apply hp
        simp [roomOk, hb] at hcr
        exact growslice_fits (by omega) hcr

/-- Onto a slice with no room. -/
theorem op_append_exact (h : Rel B w0 S0 G outs σ a w) {t tx el e' : TypeId} {x y : Operand} (ho : o.op = .call { callee := .builtin .append, args := #[x, y], argTypes := #[t, tx] }) (ht : P.underlying t = some (.slice el)) (htx : P.underlying tx = some (.slice e')) (hel : elOk P el = true) (hpos : 0 < szOf P el) (hby : 0 < bytesOfT P el)
    (hz : (zeroCs P el).map (·.length) = some (szOf P el)) {ys : List (sch P el).D} (hy : asSl (lks σ) (sch P el) (ev σ.tm y) = some ys) {xs : List (sch P el).D} (hx : ev σ.tm x = .sl true (sch P el) xs) {c : Bool} (hc : roomOk (xs.length + ys.length) (bytesOfT P el) = true) :
    OpOK P B w0 S0 outs σ a w o ⟨c, true, none, .sl false (sch P el) (xs ++ ys), []⟩ := by
  have hxr := ev_rel h x
  rw [hx] at hxr
  obtain ⟨hdx, hex⟩ := hxr
  obtain ⟨ad, hxv⟩ := hex rfl
  obtain ⟨i, zv, news, hb, A⟩ := appIn h ht htx hel hpos hby hz hy
  have hps : 0 < (sch P el).size := by have := A.sz; have := A.pos; omega
  by_cases hm : ys.length = 0
  · have hy0 : ys = [] := List.eq_nil_of_length_eq_zero hm
    subst hy0
    rw [List.append_nil]
    exact .inl ⟨_, w, G, app_done ho hxv (append_keep (ty := o.type) A.ht A.hi (Nat.le_refl _) A.src), h.put o.dst (av := .sl false (sch P el) xs) ⟨by rw [← hxv]; exact hdx, fun e => by simp at e⟩, rfl⟩
  · have hread : ∃ olds, DRN G.S w (sch P el) xs olds ∧ (Builtin.firstCells i.size xs.length (.slice ad xs.length xs.length)).run P w.drew = .ok olds.toArray w.drew := by
      obtain ⟨news', h1, h2, _, _⟩ := src_of (P := P) (tx := t) A.ht hdx hps
      rw [hxv] at h1
      rw [A.sz] at h1
      exact ⟨news', h2, h1.cellsD⟩
    obtain ⟨olds, hdo, hfc⟩ := hread
    simp [roomOk, hb] at hc
    obtain ⟨vs, nc, hr, hvs, hle, hmx, hdn, hok⟩ := app_grow (ty := o.type) A hdo hfc (by omega) (growslice_fits (by omega) hc)
    obtain ⟨hR, hV⟩ := h.drew.newFrozen (ty := el) hdn hle hmx false (fun e => by simp at e)
    refine .inl ⟨_, _, _, app_done ho hxv hr, hR.put o.dst (av := .sl false (sch P el) (xs ++ ys)) ?_, rfl⟩
    simpa using hV

end
end Go.Pi
end

section
namespace Go.Pi
open Go.RowKit
set_option linter.unusedSimpArgs false
set_option linter.unusedVariables false

section
variable {P : Program} {B : Nat → Prop} {w0 : World} {S0 : Cells} {G G' : Gh} {outs : Outs} {σ : St} {a : Act} {w w' : World} {o : Oper} {look : Look}

/-- Only what is looked up counts. -/
theorem Rel.congr {σ' : St} (h : Rel B w0 S0 G outs σ a w) (htm : σ'.tm = σ.tm) (hout : σ'.outs = σ.outs) (hlk : ∀ p, lk p σ'.sto = lk p σ.sto) : Rel B w0 S0 G outs σ' a w := by
  have hf : (fun o => lk o σ'.sto) = fun o => lk o σ.sto := funext hlk
  refine ⟨h.below, h.bsz, h.s0, h.snew, h.slt, by rw [htm]; exact h.tml, ?_, ?_, ?_, ?_, h.yeq⟩
  · rw [htm, hf]; exact h.tm
  · rw [hout, hf]; exact h.outl
  · rw [hf]; intro o ob ho; exact h.obj o ob (by rw [← hlk]; exact ho)
  · intro o o' ob ob' b c c' h1 h2; exact h.inj o o' ob ob' b c c' (by rw [← hlk]; exact h1) (by rw [← hlk]; exact h2)

theorem Rel.congrG {σ' : St} (h : Rel B w0 S0 G outs σ a w) (hlen : σ'.tm.length = σ.tm.length) (htm : ∀ t, get σ'.tm t = get σ.tm t) (hout : σ'.outs = σ.outs) (hlk : ∀ p, lk p σ'.sto = lk p σ.sto) : Rel B w0 S0 G outs σ' a w := by
  have hf : (fun o => lk o σ'.sto) = fun o => lk o σ.sto := funext hlk
  refine ⟨h.below, h.bsz, h.s0, h.snew, h.slt, by rw [hlen]; exact h.tml, ?_, ?_, ?_, ?_, h.yeq⟩
  · rw [hf]; intro t; rw [htm]; exact h.tm t
  · rw [hout, hf]; exact h.outl
  · rw [hf]; intro o ob ho; exact h.obj o ob (by rw [← hlk]; exact ho)
  · intro o o' ob ob' b c c' h1 h2; exact h.inj o o' ob ob' b c c' (by rw [← hlk]; exact h1) (by rw [← hlk]; exact h2)

theorem Ext.trans {G'' : Gh} {w'' : World} {look' look'' : Look} (h : Ext G w look G' w' look') (k : Ext G' w' look' G'' w'' look'') : Ext G w look G'' w'' look'' := by
  refine ⟨h.keeps.trans k.keeps, fun o fz cs ho => ?_, fun o m ver s xs ho => ?_, k.yl.trans h.yl, fun o ver ka va ks vs xs ho => ?_, fun o mo ver ks vs left cur ho => ?_⟩
  · obtain ⟨h1, fz', cs', h2⟩ := h.cells o fz cs ho
    obtain ⟨h3, r⟩ := k.cells o fz' cs' h2
    exact ⟨h3.trans h1, r⟩
  · obtain ⟨m', ver', xs', h1, h2, h3, h4, h5⟩ := h.arr o m ver s xs ho
    obtain ⟨m'', ver'', xs'', k1, k2, k3, k4, k5⟩ := k.arr o m' ver' s xs' h1
    refine ⟨m'', ver'', xs'', k1, k2.trans h2, Nat.le_trans h3 k3, fun e => (k4 (by rw [h2]; exact e)).trans (h4 e), fun e => ?_⟩
    have e1 : ver' = ver := by omega
    have e2 : ver'' = ver' := by omega
    exact ⟨(k5 e2).1.trans (h5 e1).1, (k5 e2).2.trans (h5 e1).2⟩
  · obtain ⟨h1, ver', xs', h2, h3, h4⟩ := h.map o ver ka va ks vs xs ho
    obtain ⟨k1, ver'', xs'', k2, k3, k4⟩ := k.map o ver' ka va ks vs xs' h2
    refine ⟨k1.trans h1, ver'', xs'', k2, Nat.le_trans h3 k3, fun e => ?_⟩
    have e1 : ver' = ver := by omega
    have e2 : ver'' = ver' := by omega
    exact ⟨(k4 e2).1.trans (h4 e1).1, fun b c hb => ((k4 e2).2 b c (h1.trans hb)).trans ((h4 e1).2 b c hb)⟩
  · obtain ⟨h1, left', cur', h2⟩ := h.it o mo ver ks vs left cur ho
    obtain ⟨k1, r⟩ := k.it o mo ver ks vs left' cur' h2
    exact ⟨k1.trans h1, r⟩

theorem Rel.frz1 (h : Rel B w0 S0 G outs σ a w) (o : Nat) : ∃ G', Rel B w0 S0 G' outs (frz1 o σ) a w ∧ Ext G w (lks σ) G' w (lks (Pi.frz1 o σ)) := by
  unfold Pi.frz1
  cases hob : lk o σ.sto with
  | none => exact ⟨G, h, Ext.refl _ _ _⟩
  | some ob =>
    cases ob with
    | cells fz cs => exact ⟨G, h, Ext.refl _ _ _⟩
    | map _ _ _ _ _ _ => exact ⟨G, h, Ext.refl _ _ _⟩
    | it _ _ _ _ _ _ => exact ⟨G, h, Ext.refl _ _ _⟩
    | arr m ver s xs =>
      cases m with
      | fixed k => exact ⟨G, h, Ext.refl _ _ _⟩
      | grow => exact ⟨G, h, Ext.refl _ _ _⟩
      | uniq =>
        simp only
        obtain ⟨hpos, hA⟩ := h.obj o _ hob
        cases hM : G.M o with
        | none =>
          rw [hM] at hA
          have hT : Turn G G o (.arr .grow ver s xs) (lk o σ.sto) := by
            rw [hob]
            exact ⟨.grow, ver, xs, rfl, rfl, Nat.le_refl _, fun _ => rfl, fun _ => ⟨rfl, rfl⟩⟩
          refine ⟨G, h.upd1 (G' := G) rfl o _ σ.dt (o :: σ.dob) (Keeps.refl _ _) (fun _ _ _ _ => rfl) (fun _ _ _ _ _ _ _ => ⟨rfl, fun _ h => h⟩) hT ⟨hpos, by rw [hM]; exact ⟨hA.1, rfl⟩⟩ (fun p ob b c c' e hp hb hb' => by rw [hM] at hb'; simp at hb') h.below h.bsz (fun _ _ h => .inl h) h.slt, Ext.upd1 rfl (Keeps.refl _ _) (fun _ _ _ _ => rfl) (fun _ _ _ _ _ _ _ => rfl) hT⟩
        | some q =>
          obtain ⟨b, cap⟩ := q
          rw [hM] at hA
          obtain ⟨hB, vs, ty, hh, hsz, hle, hmx, hfx, he, hS, hS2⟩ := hA
          have hno : ∀ off, ¬ G.S b off := fun off hs => by have := (hS off hs).1; simp at this
          have hk : Keeps G.S w (addS G.S b (xs.length * s.size)) w := fun b' o' hs => ⟨.inl hs, rfl⟩
          have hT : Turn G { G with S := addS G.S b (xs.length * s.size) } o (.arr .grow ver s xs) (lk o σ.sto) := by
            rw [hob]
            exact ⟨.grow, ver, xs, rfl, rfl, Nat.le_refl _, fun _ => rfl, fun _ => ⟨rfl, rfl⟩⟩
          refine ⟨{ G with S := addS G.S b (xs.length * s.size) }, h.upd1 (G' := { G with S := addS G.S b (xs.length * s.size) }) rfl o _ σ.dt (o :: σ.dob) hk (fun _ _ _ _ => rfl) (fun p ob' b' c' e hp hb' => ⟨rfl, fun off hs => ?_⟩) hT ⟨hpos, ?_⟩
            (fun p ob' b' c' c3 e hp hb' hb3 => e (h.inj p o _ _ b' c' c3 hp hob hb' hb3)) h.below h.bsz (fun b' o' hs => ?_) (fun b' o' hs => ?_), Ext.upd1 rfl hk (fun _ _ _ _ => rfl) (fun _ _ _ _ _ _ _ => rfl) hT⟩
          · rcases hs with hs | ⟨e', _⟩
            · exact hs
            · subst e'
              exact (e (h.inj p o _ _ b' c' cap hp hob hb' hM)).elim
          · simp only [hM]
            refine ⟨hB, vs, ty, hh, hsz, hle, fun _ => hmx rfl, fun k e => by simp [Mode.fix] at e, fun i x hx => ?_, fun off hs => ?_, fun _ off ho => .inr ⟨rfl, ho⟩⟩
            · obtain ⟨ws, h1, h2⟩ := he i x hx
              exact ⟨ws, DR.mono hk h1, h2⟩
            · rcases hs with hs | ⟨_, hs⟩
              · exact (hno off hs).elim
              · exact ⟨rfl, hs⟩
          · rcases hs with hs | ⟨e, _⟩
            · exact .inl hs
            · exact .inr (e ▸ hB)
          · rcases hs with hs | ⟨e, _⟩
            · exact h.slt b' o' hs
            · subst e; exact (Array.getElem?_eq_some_iff.1 hh).1

theorem Pres.frz1 (σ : St) (o : Nat) : Pres σ (frz1 o σ) := by
  unfold Pi.frz1
  split
  · rename_i ver s xs hob
    refine ⟨fun t => .inr (.inl rfl), fun t ht => ht, fun p => ?_, fun p hp => .tail _ hp, rfl, rfl⟩
    by_cases e : p = o
    · exact .inl (by simp [e])
    · exact .inr fun ob' hp => by simpa [lk_ups, e] using hp
  · exact Pres.refl σ

theorem Rel.frzX : ∀ (l : List Nat) {G : Gh} {σ : St}, Rel B w0 S0 G outs σ a w → ∃ G', Rel B w0 S0 G' outs (Pi.frz l σ) a w ∧ Ext G w (lks σ) G' w (lks (Pi.frz l σ))
  | [], G, σ, h => ⟨G, h, Ext.refl _ _ _⟩
  | o :: r, G, σ, h => by
    obtain ⟨G1, h1, x1⟩ := h.frz1 o
    obtain ⟨G2, h2, x2⟩ := Rel.frzX r h1
    exact ⟨G2, h2, x1.trans x2⟩

theorem Rel.frz (l : List Nat) {G : Gh} {σ : St} (h : Rel B w0 S0 G outs σ a w) : ∃ G', Rel B w0 S0 G' outs (Pi.frz l σ) a w := by
  obtain ⟨G', h1, _⟩ := Rel.frzX l h
  exact ⟨G', h1⟩

theorem Pres.frz : ∀ (l : List Nat) (σ : St), Pres σ (Pi.frz l σ)
  | [], σ => Pres.refl σ
  | o :: r, σ => (Pres.frz1 σ o).trans (Pres.frz r _)

theorem frz_tm : ∀ (l : List Nat) (σ : St), (Pi.frz l σ).tm = σ.tm
  | [], σ => rfl
  | o :: r, σ => by
    show (Pi.frz r (Pi.frz1 o σ)).tm = _
    rw [frz_tm r]
    unfold Pi.frz1
    split <;> rfl

theorem frzFor_eq (E : Env) (σ : St) (o : Oper) : ∃ l, frzFor E σ o = Pi.frz l σ := by
  unfold frzFor frzOps
  split
  · exact ⟨_, rfl⟩
  · exact ⟨[], rfl⟩
  · exact ⟨[], rfl⟩
  · split
    · split
      · split
        · exact ⟨_, rfl⟩
        · exact ⟨[], rfl⟩
      · exact ⟨_, rfl⟩
      · exact ⟨[], rfl⟩
    · exact ⟨_, rfl⟩
  · exact ⟨_, rfl⟩

/-! ### calls of functions that have been proved -/
/-- What a function returns, as one value. -/
def packV : List Value → Value
  | [v] => v
  | vs => .tuple vs.toArray

structure Ret (S : Cells) (w : World) (cods : List Ty) (y : (tyS cods).D) (v : Value) (w' : World) : Prop where
  below : Bel (· < w.heap.size) w w'
  ret : ∃ S', (∀ b o, S b o → S' b o) ∧ (∀ b o, S' b o → S b o ∨ w.heap.size ≤ b) ∧ (∀ b o, S' b o → b < w'.heap.size) ∧ ∃ vs, TysV S' w' cods y vs ∧ v = packV vs

/-- The one slice, still to be turned. -/
structure RetU (S : Cells) (w : World) (cods : List Ty) (y : (tyS cods).D) (v : Value) (w' : World) : Prop where
  below : Bel (· < w.heap.size) w w'
  ret : ∃ S', (∀ b o, S b o → S' b o) ∧ (∀ b o, S' b o → S b o ∨ w.heap.size ≤ b) ∧ (∀ b o, S' b o → b < w'.heap.size) ∧ ∃ s ys mo, encs cods y = [.sl false s ys] ∧ 0 < s.size ∧ ArrR S' w' (· < w.heap.size) mo .uniq s ys ∧ RefV mo ys.length v

def preH : Option Prop → Prop
  | none => True
  | some q => q

/-- A closure's captured variable is there. -/
def CloOk : (l : List Ty) → (tyS l).D → Prop
  | [], _ => False
  | [t], x => match t, x with
    | (false, .sl _), xs => 0 < xs.length
    | _, _ => False
  | _ :: t' :: r, x => CloOk (t' :: r) x.2
def cloV1 : Value → Value
  | .slice (some a) _ _ => .pointer (some a)
  | v => v
def cloV : List Value → List Value
  | [] => []
  | [v] => [cloV1 v]
  | v :: v' :: r => v :: cloV (v' :: r)
def argsOf (en : Entry) (args : List Value) : List Value := match en.clo with
  | true => cloV args
  | false => args
/-- A function that turns a slice of its caller in place. -/
def IpOK (P : Program) (f : Nat) (q : Ip) : Prop := ∀ (S : Cells) (w : World) (B : Nat → Prop) (mo : Option (Nat × Nat)) (xs : List q.s.D) (v : Value), (∀ b o, S b o → b < w.heap.size) → ArrR S w B mo .uniq q.s xs → 0 < q.s.size → RefV mo xs.length v → q.pre xs →
    Calls P f #[v, .func (.func q.g) #[] #[]] w fun
      | .returned _, w' => Bel (fun k => k < w.heap.size ∧ ∀ b c, mo = some (b, c) → k ≠ b) w w' ∧ ArrR S w' B mo .uniq q.s (q.fn xs) ∧ (q.fn xs).length = xs.length
      | .panicked _, _ => False
      | .outgrown, _ => False
def EntryOK (P : Program) (f : Nat) (en : Entry) : Prop :=
  (∃ fn, P.funcs[f]? = some fn ∧ fn.body.isSome = true) ∧ (en.total = true → ∀ x, en.pre x) ∧ (∀ q, en.ip = some q → IpOK P f q) ∧ ∀ (S : Cells) (w : World) (args : List Value) (x : (tyS en.doms).D), (∀ b o, S b o → b < w.heap.size) → TysV S w en.doms x args → en.pre x → (en.clo = true → CloOk en.doms x) →
    Calls P f (argsOf en args).toArray w fun
      | .returned v, w' => Ret S w en.cods (en.fn x) v w' ∧ (en.uq = true → RetU S w en.cods (en.fn x) v w') ∧ (en.ex = true → ∃ a n, v = .slice a n n)
      | .panicked _, _ => False
      | .outgrown, _ => False

def EnvOK (P : Program) (E : Env) : Prop := ∀ f en, elk f E = some en → EntryOK P f en

theorem vr1_of : ∀ {avs : List AV} {vs : List Value}, All2 (VR G w look) avs vs → (∀ v ∈ avs, ∀ q, v ≠ .tup q) → All2 (VR1 G w look) avs vs
  | [], [], _, _ => trivial
  | [], _ :: _, h, _ => h.elim
  | _ :: _, [], h, _ => h.elim
  | c :: r, u :: us, h, h2 => by
    refine ⟨?_, vr1_of h.2 fun v hv => h2 v (by simp [hv])⟩
    have h3 := h.1
    have h4 := h2 c (by simp)
    cases c <;> first | exact h3 | exact absurd rfl (h4 _)

theorem encRes_rel {l : List Ty} {y : (tyS l).D} {vs : List Value} (h : TysV G.S w l y vs) : VR G w look (encRes l y) (packV vs) := by
  have h1 : All2 (VR G w look) (encs l y) vs := encs_rel h
  have hnot : ∀ (l : List Ty) (y : (tyS l).D), ∀ v ∈ encs l y, ∀ q, v ≠ .tup q := by
    intro l
    induction l with
    | nil => intro y v hv; simp [encs] at hv
    | cons t r ih =>
      have he : ∀ (x : t.2.D) (q : List AV), encTy t x ≠ .tup q := by
        intro x q
        obtain ⟨ag, s⟩ := t
        cases ag with
        | true => simp [encTy]
        | false =>
          simp only [encTy]
          have hs : ∀ (s : Sch) (x : s.D), ∀ c ∈ s.enc x, ∀ q, c ≠ .tup q := by
            intro s
            induction s with
            | unit => intro x c hc; simp [Sch.enc] at hc
            | int k => intro x c hc; simp [Sch.enc] at hc; simp [hc]
            | bool => intro x c hc; simp [Sch.enc] at hc; simp [hc]
            | str => intro x c hc; simp [Sch.enc] at hc; simp [hc]
            | sl s _ => intro x c hc; simp [Sch.enc] at hc; simp [hc]
            | pair p q ihp ihq =>
              intro x c hc
              simp only [Sch.enc, List.mem_append] at hc
              rcases hc with hc | hc
              · exact ihp _ c hc
              · exact ihq _ c hc
          cases hx : s.enc x with
          | nil => simp
          | cons c r => simpa using hs s x c (by simp [hx]) q
      cases r with
      | nil =>
        intro y v hv q
        simp [encs] at hv
        subst hv
        exact he y q
      | cons t' r =>
        intro y v hv q
        simp only [encs, List.mem_cons] at hv
        rcases hv with rfl | hv
        · exact he y.1 q
        · exact ih y.2 v hv q
  unfold encRes
  split
  · rename_i v hv
    rw [hv] at h1
    cases vs with
    | nil => exact h1.elim
    | cons u r => cases r with
      | nil => exact h1.1
      | cons _ _ => exact h1.2.elim
  · rename_i vs' hne
    have hlen := h1.length
    have hp : packV vs = .tuple vs.toArray := by
      cases vs with
      | nil => rfl
      | cons u r => cases r with
        | nil =>
          exfalso
          cases he : encs l y with
          | nil => rw [he] at hlen; simp at hlen
          | cons q r' => cases r' with
            | nil => exact hne q he
            | cons _ _ => rw [he] at hlen; simp at hlen
        | cons _ _ => rfl
    rw [hp]
    exact ⟨vs.toArray, rfl, vr1_of h1 (hnot l y)⟩

/-- After a call. -/
theorem Rel.called (h : Rel B w0 S0 G outs σ a w) {S' : Cells} (hb : Bel (· < w.heap.size) w w') (h1 : ∀ b o, G.S b o → S' b o) (h2 : ∀ b o, S' b o → G.S b o ∨ w.heap.size ≤ b) (h3 : ∀ b o, S' b o → b < w'.heap.size) : Rel B w0 S0 { G with S := S' } outs σ a w' := by
  have hk : Keeps G.S w S' w' := fun b o hs => ⟨h1 b o hs, hb.below.cell (p := ⟨b, o, none⟩) (h.slt b o hs)⟩
  refine h.still (G' := { G with S := S' }) rfl hk rfl (fun p ob b c hp hm => ?_) (h.below.trans (hb.mono h.bsz)) (fun b hB => Nat.lt_of_lt_of_le (h.bsz b hB) hb.size) (fun b o hs => ?_) h3
  · have hlt := (h.obj p ob hp).lt hm
    refine ⟨hb.block b hlt, fun off hs => ?_⟩
    rcases h2 b off hs with hs | hs
    · exact hs
    · omega
  · rcases h2 b o hs with hs | hs
    · exact .inl hs
    · exact .inr (fun hB => Nat.not_lt.2 hs (h.bsz _ hB))

end
end Go.Pi
end

section
namespace Go.Pi
open Go.RowKit
set_option linter.unusedSimpArgs false
set_option linter.unusedVariables false

/-- What is asked of the program as a whole. -/
structure ProgOK (P : Program) : Prop where
  quiet : (P.funcs.all fun fn => fn.name != "runtime.NumGoroutine") = true
  mixed : P.follows .mixedOrders = true

section
variable {P : Program} {B : Nat → Prop} {w0 : World} {S0 : Cells} {G G' : Gh} {outs : Outs} {σ : St} {a : Act} {w w' : World} {o : Oper} {look : Look}

abbrev WP (P : Program) (o : Oper) (a : Act) (w : World) (K : Act → World → Prop) (Q : Exit → Act → World → Prop) : Prop := o.wp P a w K Q

variable {K : Act → World → Prop} {Q : Exit → Act → World → Prop}

theorem wp_of_ok {e : Eff} (h : OpOK P B w0 S0 outs σ a w o e) (hk : ∀ v w' G', Rel B w0 S0 G' outs (appEff o.dst σ e.val e.upd) (a.put o.dst v) w' → e.room = true → K (a.put o.dst v) w') : WP P o a w K Q := by
  rcases h with ⟨v, w', G', hd, hR, hroom⟩ | h
  · rcases hd with hd | ⟨hd, rfl⟩
    · unfold WP Oper.wp; rw [hd]; exact hk v w' G' hR hroom
    · unfold WP Oper.wp; rw [hd]; exact hk Go.undef w' G' hR hroom
  · exact h.elim

/-- A call is entered. -/
theorem enter_run (hP : ProgOK P) {c : Call} (ho : o.op = .call c) {fv : Operand} (hc : c.callee = .value fv) {f : FuncId} {caps : Array Value} (hv : a.eval fv = .func (.func f) #[] caps) {fn : Func} (hf : P.funcs[f]? = some fn) (hb : fn.body.isSome = true) :
    (execOp a.eval o).run P w = .ok (.enter f ((c.args.toList.map a.eval ++ caps.toList).toArray)) w := by
  have hn : (fn.name == "runtime.NumGoroutine") = false := by
    have h1 := Array.all_eq_true_iff_forall_mem.1 hP.quiet fn (Array.mem_of_getElem? hf)
    cases hh : (fn.name == "runtime.NumGoroutine") with
    | false => rfl
    | true => simp [bne, hh] at h1
  have hbn : fn.body.isNone = false := by cases hh : fn.body <;> simp_all
  have hargs : (c.args.toList.map a.eval ++ caps.toList).toArray = #[] ++ c.args.map a.eval ++ caps := by
    apply Array.ext'
    simp
  rw [hargs]
  unfold execOp
  simp only [ho, resolve, hc, hv, Deferred.ofValue, invoke, callFunc, Sem.run_bind, Sem.run_pure, Result.andThen_ok]
  have hn' : ¬ (fn.name = "runtime.NumGoroutine") := by simpa using hn
  have hbn' : ¬ (fn.body = none) := by intro e; simp [e] at hb
  simp [program, Sem.run, hf, hn', hbn']

theorem wp_enter {f : FuncId} {args : Array Value} (hr : (execOp a.eval o).run P w = .ok (.enter f args) w) (h : Calls P f args w fun
    | .returned v, w'' => K (a.put o.dst v) w''
    | .panicked chain, w'' => Q (.panic chain) a w''
    | .outgrown, _ => LetsOut Q) : o.wp P a w K Q := by
  unfold Oper.wp
  rw [hr]
  exact h

theorem decs_cloOk : ∀ {l : List Ty} {vs : List AV} {s : Sch} {c : s.D} {x : (tyS l).D}, l.getLast? = some (false, .sl s) → decs look l (vs ++ [.sl false s [c]]) = some x → CloOk l x
  | [], _, _, _, _, hl, h => by simp at hl
  | [t], [], s, c, x, hl, h => by
    simp only [List.getLast?_singleton, Option.some.injEq] at hl
    subst hl
    simp only [List.nil_append, decs, decTy, pur, full, Sch.dec] at h
    simp only [dite_true, Option.some.injEq] at h
    subst h
    show 0 < List.length [c]
    simp
  | [t], [_], _, _, _, hl, h => by simp [decs] at h
  | [t], _ :: _ :: _, _, _, _, hl, h => by simp [decs] at h
  | t :: t' :: r, [], s, c, x, hl, h => by
    simp only [List.nil_append, decs] at h
    split at h
    · rename_i h1 h2
      cases r with
      | nil => simp [decs] at h2
      | cons _ _ => simp [decs] at h2
    · cases h
  | t :: t' :: r, v :: vs, s, c, x, hl, h => by
    simp only [List.cons_append, decs] at h
    split at h
    · rename_i y1 y2 h1 h2
      obtain rfl := Option.some.inj h
      exact decs_cloOk (l := t' :: r) (by rw [List.getLast?_cons_cons] at hl; exact hl) h2
    · cases h

theorem cloV_snoc (a : Addr) (n m : Nat) : ∀ l : List Value, cloV (l ++ [.slice (some a) n m]) = l ++ [.pointer (some a)]
  | [] => rfl
  | v :: r => by
    cases r with
    | nil => rfl
    | cons v' r' =>
      show v :: cloV (v' :: r' ++ [.slice (some a) n m]) = _
      rw [cloV_snoc a n m (v' :: r')]
      rfl

theorem op_call (hP : ProgOK P) {E : Env} (hE : EnvOK P E) (h : Rel B w0 S0 G outs σ a w) {c : Call} (ho : o.op = .call c) {fv : Operand} (hc : c.callee = .value fv) {en : Entry} {avs : List AV} (hcal : callee E (ev σ.tm fv) (c.args.toList.map (ev σ.tm)) = some (en, avs))
    {x : (tyS en.doms).D} (hx : decs (lks σ) en.doms avs = some x) (hpre : preH (preOf en x))
    (hk : ∀ v w', Ret G.S w en.cods (en.fn x) v w' → (en.uq = true → RetU G.S w en.cods (en.fn x) v w') → (en.ex = true → ∃ a n, v = .slice a n n) → K (a.put o.dst v) w') : o.wp P a w K Q := by
  have hv := ev_rel h fv
  unfold callee at hcal
  split at hcal
  · rename_i vs f hf
    rw [hf] at hv
    split at hcal
    · rename_i en' hen
      split at hcal
      · rename_i hclo
        obtain ⟨rfl, rfl⟩ := Prod.mk.inj (Option.some.inj hcal)
        obtain ⟨caps, hv, hcaps⟩ := hv
        have hc0 : caps.toList = [] := by
          cases hl : caps.toList with
          | nil => rfl
          | cons _ _ => rw [hl] at hcaps; exact hcaps.elim
        obtain ⟨⟨fn, hfn, hb⟩, htot, _, hE⟩ := hE f _ hen
        have hpre : en'.pre x := by
          unfold preOf at hpre
          split at hpre
          · rename_i ht
            exact htot ht x
          · exact hpre
        have hr := enter_run (w := w) hP ho hc hv hfn hb
        rw [hc0, List.append_nil] at hr
        have ht := decs_rel h.obj (evs_rel h c.args.toList) hx
        have hcall := hE G.S w _ x h.slt ht hpre (fun e => by rw [hclo] at e; cases e)
        simp only [argsOf, hclo] at hcall
        refine wp_enter hr (Calls.mono hcall fun e w' he => ?_)
        cases e with
        | returned v => exact hk v w' he.1 he.2.1 he.2.2
        | panicked chain => exact he.elim
        | outgrown => exact he.elim
      · cases hcal
    · cases hcal
  · rename_i vs f s d hf
    rw [hf] at hv
    split at hcal
    · rename_i en' hen
      split at hcal
      · cases hcal
      · rename_i hclo
        rw [Bool.and_eq_true, decide_eq_true_iff] at hclo
        obtain ⟨hclo, hlast⟩ := hclo
        obtain ⟨rfl, rfl⟩ := Prod.mk.inj (Option.some.inj hcal)
        obtain ⟨caps, b, o0, hv, hel, hcaps⟩ := hv
        obtain ⟨⟨fn, hfn, hb⟩, htot, _, hE⟩ := hE f _ hen
        have hpre : en'.pre x := by
          unfold preOf at hpre
          split at hpre
          · rename_i ht
            exact htot ht x
          · exact hpre
        have hr := enter_run (w := w) hP ho hc hv hfn hb
        rw [hcaps] at hr
        have hall : All2 (VR G w (lks σ)) (c.args.toList.map (ev σ.tm) ++ [.sl false s [d]]) (c.args.toList.map a.eval ++ [.slice (some ⟨b, o0, none⟩) 1 1]) := by
          refine All2.append (evs_rel h c.args.toList) ⟨⟨⟨_, 1, rfl, by simp, by omega, fun _ => ⟨b, o0, rfl, hel⟩⟩, fun e => by cases e⟩, trivial⟩
        have ht := decs_rel h.obj hall hx
        have hcall := hE G.S w _ x h.slt ht hpre (fun _ => decs_cloOk hlast hx)
        simp only [argsOf, hclo, cloV_snoc] at hcall
        refine wp_enter hr (Calls.mono hcall fun e w' he => ?_)
        cases e with
        | returned v => exact hk v w' he.1 he.2.1 he.2.2
        | panicked chain => exact he.elim
        | outgrown => exact he.elim
    · cases hcal
  · cases hcal

theorem encRx_rel {G : Gh} {w : World} {look : Look} {en : Entry} {y : (tyS en.cods).D} {v : Value} (h : VR G w look (encRes en.cods y) v) (hx : en.ex = true → ∃ a n, v = .slice a n n) : VR G w look (encRx en y) v := by
  unfold encRx
  cases hex : en.ex with
  | false => exact h
  | true =>
    simp only
    split
    · rename_i e0 s xs henc
      rw [henc] at h
      obtain ⟨hd, _⟩ := h
      refine ⟨hd, fun _ => ?_⟩
      obtain ⟨a, n, rfl⟩ := hx hex
      obtain ⟨ad, cap, e1, _⟩ := hd
      simp at e1
      obtain ⟨rfl, rfl, rfl⟩ := e1
      exact ⟨_, rfl⟩
    · exact h

theorem op_callPure (hP : ProgOK P) {E : Env} (hE : EnvOK P E) (h : Rel B w0 S0 G outs σ a w) {c : Call} (ho : o.op = .call c) {fv : Operand} (hc : c.callee = .value fv) {en : Entry} {avs : List AV} (hcal : callee E (ev σ.tm fv) (c.args.toList.map (ev σ.tm)) = some (en, avs))
    {x : (tyS en.doms).D} (hx : decs (lks σ) en.doms avs = some x) (hpre : preH (preOf en x))
    (hk : ∀ v w' G', Rel B w0 S0 G' outs (appEff o.dst σ (encRx en (en.fn x)) []) (a.put o.dst v) w' → K (a.put o.dst v) w') : o.wp P a w K Q := by
  refine op_call hP hE h ho hc hcal hx hpre fun v w' hret _ hex => ?_
  obtain ⟨hbl, S', h1, h2, h3, vs, hvs, rfl⟩ := hret
  have hR := h.called hbl h1 h2 h3
  exact hk _ _ _ (hR.put o.dst (encRx_rel (encRes_rel (G := { G with S := S' }) hvs) hex))

/-- The one slice becomes an object. -/
theorem op_callOwn (hP : ProgOK P) {E : Env} (hE : EnvOK P E) (h : Rel B w0 S0 G outs σ a w) {c : Call} (ho : o.op = .call c) {fv : Operand} (hc : c.callee = .value fv) {en : Entry} {avs : List AV} (hcal : callee E (ev σ.tm fv) (c.args.toList.map (ev σ.tm)) = some (en, avs))
    {x : (tyS en.doms).D} (hx : decs (lks σ) en.doms avs = some x) {site : Nat} {e : Eff} (he : callOwn (lks σ) site en x = some e) (hpre : preH (preOf en x))
    (hk : ∀ v w' G', Rel B w0 S0 G' outs (appEff o.dst σ e.val e.upd) (a.put o.dst v) w' → K (a.put o.dst v) w') : o.wp P a w K Q := by
  unfold callOwn at he
  split at he
  · rename_i huq hsite
    split at he
    · rename_i ex s ys henc
      obtain rfl := Option.some.inj he
      refine op_call hP hE h ho hc hcal hx hpre fun v w' _ hretU _ => ?_
      obtain ⟨hbl, S', h1, h2, h3, s', ys', mo, henc', hpos, hA, hrv⟩ := hretU huq
      rw [henc] at henc'
      simp at henc'
      obtain ⟨_, rfl, e2⟩ := henc'
      have e3 := eq_of_heq e2
      subst e3
      have hR := h.called hbl h1 h2 h3
      have hR2 := hR.upd1 (G' := { G with S := S', M := fun p => if p = site then mo else G.M p }) rfl site (.arr .uniq 0 s ys) σ.dt (site :: σ.dob) (Keeps.refl _ _) (fun p ob e _ => by simp [e]) (fun p ob b c _ _ _ => ⟨rfl, fun _ h => h⟩)
        (by
          have hs2 : lk site σ.sto = none := hsite
          rw [hs2]; trivial)
        ⟨hpos, by
          simp only [if_pos]
          cases mo with
          | none => exact hA
          | some q =>
            obtain ⟨b, cap⟩ := q
            exact ⟨fun hB => hA.1 (h.bsz _ hB), hA.2⟩⟩
        (fun p ob b c c' e hp hb hb' => by
          simp at hb'
          subst hb'
          have hlt := (h.obj p ob hp).lt hb
          have := hA.1
          omega) hR.below hR.bsz (fun _ _ h => .inl h) hR.slt
      refine hk v w' _ (hR2.put o.dst (av := .ref site 0) ?_)
      refine refV_ref (n := ys.length) (xs := ys) (s := s) (m := .uniq) ?_ (by simp [lks, lk_ups]) rfl rfl (by simpa using hrv)
      cases mo with
      | none => obtain ⟨_, rfl⟩ := hrv; trivial
      | some q => simp only [RefV] at hrv; subst hrv; trivial
    · simp at he
  · simp at he

end
end Go.Pi
end

section
namespace Go.Pi
open Go.RowKit Go.MapKept
set_option linter.unusedSimpArgs false
set_option linter.unusedVariables false

/-! ### keys -/
def encV : (s : Sch) → s.D → List Value
  | .unit, _ => []
  | .int k, n => [.int k n]
  | .bool, b => [.bool b]
  | .str, b => [.string b]
  | .sl _, _ => []
  | .pair a b, x => encV a x.1 ++ encV b x.2

theorem DR.flat {S : Cells} {w : World} : ∀ {s : Sch} {x : s.D} {vs : List Value}, s.flat = true → DR S w s x vs → vs = encV s x
  | .unit, _, _, _, h => h
  | .int _, _, _, _, h => h
  | .bool, _, _, _, h => h
  | .str, _, _, _, h => h
  | .sl _, _, _, hf, _ => by simp [Sch.flat] at hf
  | .pair a b, x, _, hf, h => by
    simp only [Sch.flat, Bool.and_eq_true] at hf
    obtain ⟨l, r, rfl, hl, hr⟩ := h
    rw [DR.flat hf.1 hl, DR.flat hf.2 hr]
    rfl
theorem DR.ofFlat {S : Cells} {w : World} : ∀ {s : Sch} {x : s.D}, s.flat = true → DR S w s x (encV s x)
  | .unit, _, _ => rfl
  | .int _, _, _ => rfl
  | .bool, _, _ => rfl
  | .str, _, _ => rfl
  | .sl _, _, hf => by simp [Sch.flat] at hf
  | .pair a b, x, hf => by
    simp only [Sch.flat, Bool.and_eq_true] at hf
    exact ⟨_, _, rfl, DR.ofFlat hf.1, DR.ofFlat hf.2⟩

section
variable {P : Program}

/-- A key as a value. -/
def keyV (P : Program) (t : TypeId) (k : (sch P t).D) : Value := wrapV P t (encV (sch P t) k)

/-- What the laws on maps need of a key's type. -/
structure KeyT (P : Program) (t : TypeId) : Prop where
  flat : (sch P t).flat = true
  check : ∀ (w : World) (em : Bool) (k : (sch P t).D), (Instr.checkKey em 10000 t (keyV P t k)).run P w = .ok () w
  find : ∀ (w : World) (k : (sch P t).D) (ks : List (sch P t).D) (es : List MapEntry), All2 (fun k e => e.key = keyV P t k) ks es →
    ∃ r, (Instr.findKey t (keyV P t k) es).run P w = .ok r w ∧ match ks.findIdx? ((sch P t).eqb k) with
      | none => r = none
      | some j => ∃ e, es[j]? = some e ∧ r = some (j, e.val)
  stays : ∀ (w : World) (k k' : (sch P t).D), (sch P t).eqb k k' = true → (Instr.keyThatStays (keyV P t k') (keyV P t k)).run P w = .ok (keyV P t k) w

theorem findNow_of {d : TypeDesc} {kv : Value} {α : Type} (p : α → Bool) (enc : α → Value) (h : ∀ a, Instr.sameNow d kv (enc a) = some (p a)) : ∀ (ks : List α) (es : List MapEntry) (i : Nat), All2 (fun a e => e.key = enc a) ks es →
    ∃ r, Instr.findNow d kv es i = some r ∧ match ks.findIdx? p with
      | none => r = none
      | some j => ∃ e, es[j]? = some e ∧ r = some (i + j, e.val)
  | [], [], i, _ => ⟨none, rfl, by simp⟩
  | [], _ :: _, _, h => h.elim
  | _ :: _, [], _, h => h.elim
  | a :: ks, e :: es, i, ha => by
    simp only [Instr.findNow]
    rw [ha.1, h a]
    cases hp : p a with
    | true => exact ⟨_, rfl, by simp only [List.findIdx?_cons, hp, if_true]; exact ⟨e, rfl, rfl⟩⟩
    | false =>
      obtain ⟨r, h1, h2⟩ := findNow_of p enc h ks es (i + 1) ha.2
      refine ⟨r, h1, ?_⟩
      simp only [List.findIdx?_cons, hp, Bool.false_eq_true, if_false]
      revert h2
      cases ks.findIdx? p with
      | none => exact fun h => h
      | some j =>
        rintro ⟨e', h3, h4⟩
        exact ⟨e', by simpa using h3, by rw [h4, show i + 1 + j = i + (j + 1) by omega]⟩

theorem findAsking_of {kt : TypeId} {kv : Value} {w : World} {α : Type} (p : α → Bool) (enc : α → Value) (h : ∀ a, (Op.equal kt kv (enc a)).run P w = .ok (p a) w) : ∀ (ks : List α) (es : List MapEntry) (i : Nat), All2 (fun a e => e.key = enc a) ks es →
    ∃ r, (Instr.findAsking kt kv es i).run P w = .ok r w ∧ match ks.findIdx? p with
      | none => r = none
      | some j => ∃ e, es[j]? = some e ∧ r = some (i + j, e.val)
  | [], [], i, _ => ⟨none, by simp [Instr.findAsking], by simp⟩
  | [], _ :: _, _, h => h.elim
  | _ :: _, [], _, h => h.elim
  | a :: ks, e :: es, i, ha => by
    have h1 := h a
    rw [← ha.1] at h1
    cases hp : p a with
    | true => exact ⟨some (i, e.val), by simp [Instr.findAsking, h1, hp], by simp only [List.findIdx?_cons, hp, if_true]; exact ⟨e, rfl, rfl⟩⟩
    | false =>
      obtain ⟨r, h2, h3⟩ := findAsking_of p enc h ks es (i + 1) ha.2
      refine ⟨r, by simp [Instr.findAsking, h1, hp, h2], ?_⟩
      simp only [List.findIdx?_cons, hp, Bool.false_eq_true, if_false]
      revert h3
      cases ks.findIdx? p with
      | none => exact fun h => h
      | some j =>
        rintro ⟨e', h4, h5⟩
        exact ⟨e', by simpa using h4, by rw [h5, show i + 1 + j = i + (j + 1) by omega]⟩

theorem isInt_parts {q : IntKind} {t : TypeId} (h : isIntT P q t = true) : P.underlying t = some (.int q) := by
  unfold isIntT at h
  split at h
  · rename_i k hu
    simp at h; subst h; exact hu
  · simp at h

theorem schOf_int {n : Nat} {q : IntKind} {t : TypeId} (h : P.underlying t = some (.int q)) : schOf P (n + 1) t = .int q := by simp [schOf, h]

/-- Keys that are some numbers of one kind. -/
theorem ints_key {q : IntKind} : ∀ (m : Nat) {s : Sch}, s = prods (List.replicate m (.int q)) → ∃ fl : s.D → List Int, (∀ k, (fl k).length = m) ∧ (∀ k, encV s k = (fl k).map (Value.int q)) ∧ (∀ k, s.enc k = (fl k).map (AV.int q)) ∧
    (∀ k k', s.eqb k k' = (fl k == fl k')) ∧ s.flat = true
  | 0, s, h => by
    subst h
    exact ⟨fun _ => [], fun _ => rfl, fun _ => rfl, fun _ => rfl, fun _ _ => rfl, rfl⟩
  | 1, s, h => by
    subst h
    exact ⟨fun n => [n], fun _ => rfl, fun _ => rfl, fun _ => rfl, fun k k' => by
      show (@BEq.beq Int _ k k') = (@BEq.beq (List Int) _ [k] [k'])
      simp, rfl⟩
  | m + 2, s, h => by
    have e : s = .pair (.int q) (prods (List.replicate (m + 1) (.int q))) := by rw [h]; rfl
    subst e
    obtain ⟨fl, h1, h2, h3, h4, h5⟩ := ints_key (m + 1) (s := prods (List.replicate (m + 1) (.int q))) rfl
    refine ⟨fun x => x.1 :: fl x.2, fun x => by simp [h1], fun x => by show [_] ++ _ = _; rw [h2]; rfl, fun x => by show [_] ++ _ = _; rw [h3]; rfl, fun x y => ?_, by simp [Sch.flat, h5]⟩
    show (x.1 == y.1 && _) = _
    rw [h4]
    simp

theorem eqTy_int {q : IntKind} {e : TypeId} (he : P.underlying e = some (.int q)) (n : Nat) (a b : Int) : eqTy P (n + 1) e [.int q a] [.int q b] = some (a == b) := by simp [eqTy, he]

theorem drop_beq {l1 l2 : List Int} {i : Nat} (h1 : i < l1.length) (h2 : i < l2.length) : (l1[i] == l2[i] && List.drop (i + 1) l1 == List.drop (i + 1) l2) = (List.drop i l1 == List.drop i l2) := by
  rw [List.drop_eq_getElem_cons h1, List.drop_eq_getElem_cons h2]; rfl

theorem eqAr_ints {q : IntKind} {e : TypeId} (he : P.underlying e = some (.int q)) {l1 l2 : List Int} (hl : l1.length = l2.length) (n : Nat) : ∀ (j i : Nat), i + j = l1.length →
    eqAr 1 (eqTy P (n + 1) e) (l1.map (AV.int q)) (l2.map (AV.int q)) j i = some (l1.drop i == l2.drop i)
  | 0, i, h => by simp [eqAr, List.drop_eq_nil_of_le (show l1.length ≤ i by omega), List.drop_eq_nil_of_le (show l2.length ≤ i by omega)]
  | j + 1, i, h => by
    have h1 : i < l1.length := by omega
    have h2 : i < l2.length := by omega
    have e1 : ((l1.map (AV.int q)).drop (i * 1)).take 1 = [.int q l1[i]] := by
      rw [Nat.mul_one, List.drop_eq_getElem_cons (by simpa using h1)]; simp
    have e2 : ((l2.map (AV.int q)).drop (i * 1)).take 1 = [.int q l2[i]] := by
      rw [Nat.mul_one, List.drop_eq_getElem_cons (by simpa using h2)]; simp
    simp only [eqAr, e1, e2, eqTy_int he, eqAr_ints he hl n j (i + 1) (by omega), drop_beq h1 h2]

theorem eqFs_ints {q : IntKind} {l1 l2 : List Int} (hl : l1.length = l2.length) (n : Nat) : ∀ (fs : List Field) (i : Nat), fieldsOk P q fs i = true → i + fs.length = l1.length →
    eqFs P (eqTy P (n + 1)) (l1.map (AV.int q)) (l2.map (AV.int q)) fs = some (l1.drop i == l2.drop i)
  | [], i, _, h => by
    simp only [List.length_nil] at h
    simp [eqFs, List.drop_eq_nil_of_le (show l1.length ≤ i by omega), List.drop_eq_nil_of_le (show l2.length ≤ i by omega)]
  | f :: fs, i, hf, h => by
    simp only [fieldsOk, Bool.and_eq_true, bne_iff_ne, ne_eq, decide_eq_true_eq] at hf
    obtain ⟨hn, ho, hz, hi, hr⟩ := hf
    have he := isInt_parts hi
    simp only [List.length_cons] at h
    have h1 : i < l1.length := by omega
    have h2 : i < l2.length := by omega
    have hok : okT P f.type = true := by simp [okT, he, hz]
    have e1 : ((l1.map (AV.int q)).drop f.offset).take (szOf P f.type) = [.int q l1[i]] := by
      rw [ho, hz, List.drop_eq_getElem_cons (by simpa using h1)]; simp
    have e2 : ((l2.map (AV.int q)).drop f.offset).take (szOf P f.type) = [.int q l2[i]] := by
      rw [ho, hz, List.drop_eq_getElem_cons (by simpa using h2)]; simp
    simp only [eqFs]
    rw [if_neg (by
      simp only [hn, hok, false_or, List.length_map, ho, hz, Bool.true_eq_false]
      omega)]
    rw [e1, e2, eqFs_ints hl n fs (i + 1) hr (by omega)]
    simp only [eqTy_int he, drop_beq h1 h2]

/-- What is needed of a key's type that is an array or a struct of numbers. -/
theorem keyT_ints {q : IntKind} {t : TypeId} {m : Nat} (hag : isAggT P t = true) (hs : sch P t = prods (List.replicate m (.int q))) (hwide : (match P.underlying t with | some (.array _ _) | some (.struct _) => true | _ => false) = true)
    (heq : ∀ l1 l2 : List Int, l1.length = m → l2.length = m → eqTy P 12 t (l1.map (AV.int q)) (l2.map (AV.int q)) = some (l1 == l2))
    (hck : ∀ (w : World) (em : Bool) (l : List Int), l.length = m → (Instr.checkKey em 10000 t (.agg (l.map (Value.int q)).toArray)).run P w = .ok () w) : KeyT P t := by
  obtain ⟨fl, h1, h2, h3, h4, h5⟩ := ints_key m hs
  have hkv : ∀ k, keyV P t k = .agg ((fl k).map (Value.int q)).toArray := fun k => by simp [keyV, wrapV, hag, h2]
  refine ⟨h5, fun w em k => by rw [hkv]; exact hck w em _ (h1 k), fun w k ks es ha => ?_, fun w k k' he => ?_⟩
  · rw [run_findKey_eq w hwide]
    have := findAsking_of (P := P) (kt := t) (kv := keyV P t k) (w := w) ((sch P t).eqb k) (keyV P t) (fun k' => by
      have hc : ∀ k, All2 (CR { S := fun _ _ => False, M := fun _ => none } w (fun _ => none)) ((sch P t).enc k) (encV (sch P t) k) := fun k => enc_rel (G := { S := fun _ _ => False, M := fun _ => none }) (DR.ofFlat h5)
      exact eqTy_run 12 t _ _ _ _ _ Op.maxDepth w (by decide) (hc k) (hc k') (by rw [h3, h3, heq _ _ (h1 k) (h1 k'), h4])) ks es 0 ha
    obtain ⟨r, h6, h7⟩ := this
    refine ⟨r, h6, ?_⟩
    revert h7
    cases ks.findIdx? ((sch P t).eqb k) with
    | none => exact fun h => h
    | some j =>
      rintro ⟨e, h8, h9⟩
      exact ⟨e, h8, by rw [h9]; simp⟩
  · have e : fl k = fl k' := by rw [h4] at he; simpa using he
    rw [hkv, hkv, e]
    have : Instr.sameBits 10000 (.agg ((fl k').map (Value.int q)).toArray) (.agg ((fl k').map (Value.int q)).toArray) = true := by
      have hall : ∀ l : List Int, (((l.map (Value.int q)).zip (l.map (Value.int q))).all fun (x, y) => Instr.sameBits 9999 x y) = true := by
        intro l
        induction l with
        | nil => rfl
        | cons x r ih => simp only [List.map_cons, List.zip_cons_cons, List.all_cons, ih, Bool.and_true]; simp [Instr.sameBits]
      simp only [Instr.sameBits, beq_self_eq_true, Bool.true_and]
      exact hall _
    unfold Instr.keyThatStays
    rw [this]
    rfl

theorem keyT_plain {t : TypeId} {d : TypeDesc} {s : Sch} (hu : P.underlying t = some d) (hs : sch P t = s) (hag : isAggT P t = false) (enc : s.D → Value) (henc : ∀ k, encV s k = [enc k]) (hf : s.flat = true) (hkey : ∀ k, IsKey d (enc k))
    (hsame : ∀ k k', Instr.sameNow d (enc k) (enc k') = some (s.eqb k k')) (hst : ∀ k k', s.eqb k k' = true → enc k' = enc k) (hbits : ∀ k, Instr.sameBits 10000 (enc k) (enc k) = true) : KeyT P t := by
  subst hs
  have hkv : ∀ k, keyV P t k = enc k := fun k => by simp [keyV, wrapV, hag, henc]
  refine ⟨hf, fun w em k => by rw [hkv]; exact run_checkKey hu (hkey k) em 9999, fun w k ks es ha => ?_, fun w k k' he => ?_⟩
  · obtain ⟨r, h1, h2⟩ := findNow_of (d := d) (kv := enc k) ((sch P t).eqb k) enc (hsame k) ks es 0 (ha.imp fun a e h => by rw [h, hkv])
    rw [hkv]
    refine ⟨r, run_findKey hu h1, ?_⟩
    revert h2
    cases ks.findIdx? ((sch P t).eqb k) with
    | none => exact fun h => h
    | some j =>
      rintro ⟨e, h3, h4⟩
      exact ⟨e, h3, by rw [h4]; simp⟩
  · rw [hkv, hkv, hst k k' he]
    unfold Instr.keyThatStays
    rw [hbits k]
    rfl

theorem fieldsOk_sch {q : IntKind} {n : Nat} : ∀ {fs : List Field} {i : Nat}, fieldsOk P q fs i = true → fs.map (fun f => schOf P (n + 1) f.type) = List.replicate fs.length (.int q)
  | [], _, _ => rfl
  | f :: fs, i, h => by
    simp only [fieldsOk, Bool.and_eq_true] at h
    simp only [List.map_cons, List.length_cons, List.replicate_succ, schOf_int (isInt_parts h.2.2.2.1), fieldsOk_sch h.2.2.2.2]

theorem checkKey_int {q : IntKind} {e : TypeId} (he : P.underlying e = some (.int q)) (w : World) (em : Bool) (n : Nat) (x : Int) : (Instr.checkKey em (n + 1) e (.int q x)).run P w = .ok () w := run_checkKey he (by simp [IsKey]) em n

set_option maxHeartbeats 1000000 in
theorem keyT_of {t : TypeId} (h : keyB P t = true) : KeyT P t := by
  unfold keyB at h
  split at h
  · rename_i k hu
    exact keyT_plain hu (schOf_int hu) (by simp [isAggT, hu]) (fun n => .int k n) (fun _ => rfl) rfl (fun _ => by simp [IsKey]) (fun a b => by simp [Instr.sameNow, Sch.eqb]) (fun a b h => by
      have h : ((a : Int) == (b : Int)) = true := h
      simp only [beq_iff_eq] at h
      rw [h]) (fun a => by simp [Instr.sameBits])
  · rename_i hu
    exact keyT_plain hu (show sch P t = .str by simp [sch, schOf, hu]) (by simp [isAggT, hu]) (fun n => .string n) (fun _ => rfl) rfl (fun _ => by simp [IsKey]) (fun a b => by simp [Instr.sameNow, Sch.eqb, beq_toListBytes]) (fun a b h => by
      have h : ((a : ByteArray).toList == (b : ByteArray).toList) = true := h
      rw [← beq_toListBytes] at h
      rw [(bytes_beq _ _).1 h]) (fun a => by
        simp only [Instr.sameBits]
        exact (bytes_beq _ _).2 rfl)
  · rename_i m e hu
    simp only [Bool.and_eq_true, decide_eq_true_eq] at h
    obtain ⟨hi, hz, hm⟩ := h
    have he := isInt_parts hi
    have hok : okT P e = true := by simp [okT, he, hz]
    have hie : (P.info? e).isSome = true := (okT_parts hok).2.2
    refine keyT_ints (q := intKindOf P e) (m := m) (by simp [isAggT, hu]) (show schOf P 12 t = _ by
      have e1 : schOf P 11 e = .int (intKindOf P e) := schOf_int he
      have e2 : schOf P 12 t = prods (List.replicate m (schOf P 11 e)) := by
        rw [schOf]
        simp only [hu]
      rw [e2, e1]) (by simp [hu]) (fun l1 l2 h1 h2 => ?_) (fun w em l hl => ?_)
    · have e1 : eqTy P 12 t (l1.map (AV.int (intKindOf P e))) (l2.map (AV.int (intKindOf P e))) = if okT P e = false ∨ (l1.map (AV.int (intKindOf P e))).length < m * szOf P e ∨ (l2.map (AV.int (intKindOf P e))).length < m * szOf P e then none else eqAr (szOf P e) (eqTy P 11 e) (l1.map (AV.int (intKindOf P e))) (l2.map (AV.int (intKindOf P e))) m 0 := by
        conv => lhs; unfold eqTy
        simp only [hu]
      rw [e1, if_neg (by rw [hz, hok]; simp; omega), hz, eqAr_ints he (by omega) 10 m 0 (by omega)]
      simp
    · rw [show (10000 : Nat) = 9999 + 1 from rfl, Instr.checkKey]
      simp only [Sem.run_bind, run_underlying hu, Result.andThen_ok]
      simp only [Std.Legacy.Range.forIn_eq_forIn_range', Std.Legacy.Range.size, Nat.sub_zero, Nat.add_one_sub_one, Nat.div_one]
      have hall : ∀ j ∈ List.range' 0 m, j < l.length := fun j hj => by simp [List.mem_range'] at hj; omega
      revert hall
      generalize List.range' 0 m = is
      intro hall
      induction is with
      | nil => simp
      | cons j is ih =>
        have hj := hall j (by simp)
        have hp := part_wrap (P := P) (w := w) (xs := (l.map (Value.int (intKindOf P e))).toArray) (off := j * 1) hok (by simp [hz]; omega)
        have hw : wrapV P e (((l.map (Value.int (intKindOf P e))).toArray.toList.drop (j * 1)).take (szOf P e)) = .int (intKindOf P e) l[j] := by
          rw [hz, Nat.mul_one, List.drop_eq_getElem_cons (by simpa using hj)]
          simp [wrapV, isAggT, he]
        rw [hw] at hp
        simp only [List.forIn_cons, Sem.run_bind, size_run hie, hz, Result.andThen_ok, hp, checkKey_int he, Sem.run_pure]
        exact ih (fun y hy => hall y (by simp [hy]))
  · rename_i fs hu
    split at h
    · simp at h
    · rename_i f r hfs
      simp only [Bool.and_eq_true, Bool.not_eq_true'] at h
      obtain ⟨hst, hfo⟩ := h
      have hlen : fs.toList.length = r.length + 1 := by rw [hfs]; rfl
      rw [← hfs] at hfo
      refine keyT_ints (q := intKindOf P f.type) (m := fs.toList.length) (by simp [isAggT, hu]) (show sch P t = _ by
        show schOf P 12 t = _
        have e1 := fieldsOk_sch (n := 10) hfo
        have e2 : schOf P 12 t = prods (fs.toList.map fun f => schOf P 11 f.type) := by
          rw [schOf]
          simp only [hu]
        rw [e2, e1]) (by simp [hu]) (fun l1 l2 h1 h2 => ?_) (fun w em l hl => ?_)
      · have e1 : eqTy P 12 t (l1.map (AV.int (intKindOf P f.type))) (l2.map (AV.int (intKindOf P f.type))) = if P.stoodInHeld t then none else eqFs P (eqTy P 11) (l1.map (AV.int (intKindOf P f.type))) (l2.map (AV.int (intKindOf P f.type))) fs.toList := by
          conv => lhs; unfold eqTy
          simp only [hu]
        rw [e1, hst]
        simp only [Bool.false_eq_true, if_false]
        rw [eqFs_ints (by omega) 10 fs.toList 0 hfo (by omega)]
        simp
      · rw [show (10000 : Nat) = 9999 + 1 from rfl, Instr.checkKey]
        simp only [Sem.run_bind, run_underlying hu, Result.andThen_ok]
        rw [← Array.forIn_toList]
        have hall : ∀ x ∈ fs.toList, x.name ≠ "_" ∧ P.underlying x.type = some (.int (intKindOf P f.type)) ∧ szOf P x.type = 1 ∧ x.offset < l.length := by
          have key : ∀ (L : List Field) (i : Nat), fieldsOk P (intKindOf P f.type) L i = true → i + L.length = l.length → ∀ x ∈ L, x.name ≠ "_" ∧ P.underlying x.type = some (.int (intKindOf P f.type)) ∧ szOf P x.type = 1 ∧ x.offset < l.length := by
            intro L
            induction L with
            | nil => intro i _ _ x hx; simp at hx
            | cons y L ih =>
              intro i hL hi x hx
              simp only [fieldsOk, Bool.and_eq_true, bne_iff_ne, ne_eq, decide_eq_true_eq] at hL
              obtain ⟨k1, k2, k3, k4, k5⟩ := hL
              rcases List.mem_cons.1 hx with rfl | hx
              · exact ⟨k1, isInt_parts k4, k3, by simp at hi; omega⟩
              · exact ih (i + 1) k5 (by simp at hi ⊢; omega) x hx
          exact key fs.toList 0 hfo (by omega)
        generalize fs.toList = L at hall
        induction L with
        | nil => simp
        | cons x L ih =>
          obtain ⟨k1, k2, k3, k4⟩ := hall x (by simp)
          have hok : okT P x.type = true := by simp [okT, k2, k3]
          have hp := part_wrap (P := P) (w := w) (xs := (l.map (Value.int (intKindOf P f.type))).toArray) (off := x.offset) hok (by simp [k3]; omega)
          have hw : wrapV P x.type (((l.map (Value.int (intKindOf P f.type))).toArray.toList.drop x.offset).take (szOf P x.type)) = .int (intKindOf P f.type) l[x.offset] := by
            rw [k3, List.drop_eq_getElem_cons (by simpa using k4)]
            simp [wrapV, isAggT, k2]
          rw [hw] at hp
          simp only [List.forIn_cons, Sem.run_bind, k1, ne_eq, not_false_eq_true, if_true, Result.andThen_ok, hp, checkKey_int k2, Sem.run_pure]
          exact ih (fun y hy => hall y (by simp [hy]))
  · simp at h

/-! ### the lists -/
theorem mget_find {ks vs : Sch} {k : ks.D} : ∀ (xs : List (ks.D × vs.D)), mget ks vs xs k = match (xs.map (·.1)).findIdx? (ks.eqb k) with
    | none => none
    | some j => (xs[j]?).map (·.2)
  | [] => rfl
  | x :: r => by
    simp only [mget, List.map_cons, List.findIdx?_cons]
    cases h : ks.eqb k x.1 with
    | true => simp
    | false =>
      simp only [Bool.false_eq_true, if_false]
      rw [mget_find r]
      cases (r.map (·.1)).findIdx? (ks.eqb k) <;> simp

theorem mput_find {ks vs : Sch} {k : ks.D} {v : vs.D} : ∀ (xs : List (ks.D × vs.D)), mput ks vs xs k v = match (xs.map (·.1)).findIdx? (ks.eqb k) with
    | none => xs ++ [(k, v)]
    | some j => xs.set j (k, v)
  | [] => rfl
  | x :: r => by
    simp only [mput, List.map_cons, List.findIdx?_cons]
    cases h : ks.eqb k x.1 with
    | true => simp
    | false =>
      simp only [Bool.false_eq_true, if_false]
      rw [mput_find r]
      cases (r.map (·.1)).findIdx? (ks.eqb k) <;> simp

theorem tyV_key {S : Cells} {w : World} {t : TypeId} (hf : (sch P t).flat = true) {k : (sch P t).D} {v : Value} (h : TyV S w (isAggT P t, sch P t) k v) : v = keyV P t k := by
  unfold keyV wrapV
  cases hag : isAggT P t with
  | true =>
    rw [hag] at h
    obtain ⟨vs, rfl, hd⟩ := h
    have hd : DR S w (sch P t) k vs.toList := hd
    rw [← DR.flat hf hd]
    simp
  | false =>
    rw [hag] at h
    have h : DR S w (sch P t) k [v] := h
    rw [← DR.flat hf h]
    rfl

theorem cell_putObj {w : World} {b : Nat} {x y : Obj} (hb : w.heap[b]? = some x) (hx : x.isCells = false) (hy : y.isCells = false) (p : Addr) : (w.putObj b y).cell? p = w.cell? p := by
  unfold World.cell?
  by_cases e : p.block = b
  · rw [e, World.putObj_heap_same (Array.getElem?_eq_some_iff.1 hb).1, hb]
    cases x <;> cases y <;> first | rfl | (simp [Obj.isCells] at hx; done) | (simp [Obj.isCells] at hy; done)
  · rw [World.putObj_heap_other e]

section
variable {B : Nat → Prop} {w0 : World} {S0 : Cells} {G : Gh} {outs : Outs} {σ : St} {a : Act} {w : World} {o : Oper} {look : Look}

theorem bel_putObj {g : Nat} (hb : Bel B w0 w) (hBg : ¬ B g) (x : Obj) : Bel B w0 (w.putObj g x) :=
  hb.trans ⟨rfl, rfl, rfl, by simp, fun k hk => World.putObj_heap_other fun e => hBg (e ▸ hk), Nat.le_refl _⟩

/-- A map, or a walk over one, is turned in its block. -/
theorem Rel.turnH (h : Rel B w0 S0 G outs σ a w) {p b c : Nat} {ob ob' : Ob} {x y : Obj} (hob : lk p σ.sto = some ob) (hM : G.M p = some (b, c)) (hb : w.heap[b]? = some x) (hx : x.isCells = false) (hy : y.isCells = false) (hT : Turn G G p ob' (some ob)) (hBb : ¬ B b) (dt' dob' : List Nat)
    (hnew : ∀ look' : Look, Ext G w (lks σ) G (w.putObj b y) look' → look' = (fun q => lk q (ups p ob' σ.sto)) → ObR B G (w.putObj b y) look' p ob') :
    Rel B w0 S0 G outs { σ with sto := ups p ob' σ.sto, dt := dt', dob := dob' } a (w.putObj b y) := by
  have hk : Keeps G.S w G.S (w.putObj b y) := fun b' o' hs => ⟨hs, cell_putObj hb hx hy _⟩
  have hold : Turn G G p ob' (lk p σ.sto) := by rw [hob]; exact hT
  have hblk : ∀ q ob'' b' c', q ≠ p → lk q σ.sto = some ob'' → G.M q = some (b', c') → (w.putObj b y).heap[b']? = w.heap[b']? := fun q ob'' b' c' e hq hb' => World.putObj_heap_other fun e' => e (h.inj q p ob'' ob b c' c hq hob (e' ▸ hb') hM)
  refine h.upd1 (G' := G) rfl p ob' dt' dob' hk (fun _ _ _ _ => rfl) (fun q ob'' b' c' e hq hb' => ⟨hblk q ob'' b' c' e hq hb', fun _ hs => hs⟩) hold (hnew _ (Ext.upd1 rfl hk (fun _ _ _ _ => rfl) hblk hold) rfl)
    (fun q ob'' b' c' c3 e hq hb' hb3 => e (h.inj q p ob'' ob b' c' c3 hq hob hb' hb3)) (bel_putObj h.below hBb y) (fun k hk => by simpa using h.bsz k hk) (fun b' o' hs => .inl hs) (fun b' o' hs => by simpa using h.slt b' o' hs)

theorem mapT_parts {t k e : TypeId} (h : mapT P t = some (k, e)) : P.underlying t = some (.map k e) := by
  unfold mapT at h
  split at h
  · rename_i k' e' hu
    simp at h
    obtain ⟨rfl, rfl⟩ := h
    exact hu
  · simp at h

theorem op_makeMap (h : Rel B w0 S0 G outs σ a w) {t : TypeId} (ho : o.op = .makeMap t none) {site : Nat} (hs : lk site σ.sto = none) (ka va : Bool) (ks vs : Sch) :
    OpOK P B w0 S0 outs σ a w o ⟨true, true, none, .hnd true site, [(site, .map 0 ka va ks vs [])]⟩ := by
  have hR := h.newAny hs (.map 0 ka va ks vs []) (.map #[] 0) 0 σ.dt (site :: σ.dob) (fun look' hx => ⟨w.heap.size, 0, #[], 0, by simp, h.fresh, heap_new w _, trivial, by simp, by simp⟩)
  refine .inl ⟨.map (some w.heap.size), _, _, .inl ?_, hR.put o.dst (av := .hnd true site) ?_, rfl⟩
  · unfold execOp
    have hr : (Instr.makeMap t none).run P w = .ok (.map (some w.heap.size)) (w.alloc (.map #[] 0)) := rfl
    simp only [ho, Option.map_none, Sem.run_bind, hr, Result.andThen_ok, Sem.run_pure]
  · exact ⟨⟨.map 0 ka va ks vs [], by simp [lks, lk_ups], rfl⟩, w.heap.size, 0, by simp, rfl⟩

theorem MapR.keys {S : Cells} {t : TypeId} {va : Bool} {vs : Sch} {xs : List ((sch P t).D × vs.D)} {es : Array MapEntry} {clock : Nat} (hf : (sch P t).flat = true) (h : MapR S w (isAggT P t) va (sch P t) vs xs es clock) :
    All2 (fun k (e : MapEntry) => e.key = keyV P t k) (xs.map (·.1)) es.toList := by
  have : ∀ (xs : List ((sch P t).D × vs.D)) (l : List MapEntry), All2 (EntR S w (isAggT P t) va (sch P t) vs) xs l → All2 (fun k (e : MapEntry) => e.key = keyV P t k) (xs.map (·.1)) l := by
    intro xs
    induction xs with
    | nil => intro l h; cases l with
      | nil => trivial
      | cons _ _ => exact h.elim
    | cons x r ih => intro l h; cases l with
      | nil => exact h.elim
      | cons e l => exact ⟨tyV_key hf h.1.1, ih l h.2⟩
  exact this xs es.toList h.1

theorem run_getMap {es : Array MapEntry} {clock b : Nat} (hb : w.heap[b]? = some (.map es clock)) : (getObj b).run P w = .ok (.map es clock) w := MapKept.run_getObj_map hb

theorem mapUpdate_run {t k e : TypeId} {kv val : Value} {es : Array MapEntry} {clock b : Nat} (hu : P.underlying t = some (.map k e)) (hb : w.heap[b]? = some (.map es clock)) (hck : (Instr.checkKey false 10000 k kv).run P w = .ok () w) (r : Option (Nat × Value)) (hfind : (Instr.findKey k kv es.toList).run P w = .ok r w) :
    (Instr.mapUpdate t (.map (some b)) kv val).run P w = (match (generalizing := false) r with
        | some (i, _) => (do
          let key ← Instr.keyThatStays (((es[i]?).map (·.key)).getD kv) kv
          setObj b (.map (es.modify i fun e => { e with key, val := val }) clock) : Sem Unit).run P w
        | none => (setObj b (.map (es.push { key := kv, val := val, born := clock }) (clock + 1))).run P w) := by
  unfold Instr.mapUpdate
  simp only [Sem.run_bind, run_underlying hu, Result.andThen_ok, run_getMap hb, hck, hfind]
  cases r with
  | none => rfl
  | some q => simp only [Sem.run_bind]

theorem lookup_run {t k e : TypeId} {kv zv : Value} {cm : Bool} {es : Array MapEntry} {clock b : Nat} (hu : P.underlying t = some (.map k e)) (hb : w.heap[b]? = some (.map es clock)) (hck : ∀ em, (Instr.checkKey em 10000 k kv).run P w = .ok () w) (hz : (zeroValue e).run P w = .ok zv w) (r : Option (Nat × Value)) (hfind : (Instr.findKey k kv es.toList).run P w = .ok r w) :
    (Instr.lookup t (.map (some b)) kv cm).run P w = (match (generalizing := false) r with
        | some (_, v) => .ok (if cm then .tuple #[v, .bool true] else v) w
        | none => .ok (if cm then .tuple #[zv, .bool false] else zv) w) := by
  unfold Instr.lookup
  simp only [Sem.run_bind, run_underlying hu, Result.andThen_ok, run_getMap hb, Sem.run_pure, hck, hfind]
  cases r with
  | none => simp only [Sem.run_bind, hz, Result.andThen_ok, Sem.run_pure]
  | some q => simp only [Sem.run_bind, Sem.run_pure, Result.andThen_ok]

theorem op_mapUpdate (h : Rel B w0 S0 G outs σ a w) {t k e : TypeId} {m x y : Operand} (ho : o.op = .mapUpdate t m x y) (ht : mapT P t = some (k, e)) {p ver : Nat} {va : Bool} {vs : Sch} {xs : List ((sch P k).D × vs.D)} (hm : ev σ.tm m = .hnd true p) (hp : lk p σ.sto = some (.map ver (isAggT P k) va (sch P k) vs xs))
    (hkb : keyB P k = true) {kx : (sch P k).D} {vy : vs.D} (hx : decTy (lks σ) (isAggT P k, sch P k) (ev σ.tm x) = some kx) (hy : decTy (lks σ) (va, vs) (ev σ.tm y) = some vy) :
    OpOK P B w0 S0 outs σ a w o ⟨true, true, none, .skip, [(p, .map (ver + 1) (isAggT P k) va (sch P k) vs (mput (sch P k) vs xs kx vy))]⟩ := by
  have hu := mapT_parts ht
  have K := keyT_of hkb
  have hv := ev_rel h m
  rw [hm] at hv
  obtain ⟨_, b, c, hM, hv⟩ := hv
  obtain ⟨b', c', es, clock, hM', hBb, hb, hr⟩ := h.obj p _ hp
  rw [hM] at hM'
  simp only [Option.some.injEq, Prod.mk.injEq] at hM'
  obtain ⟨rfl, rfl⟩ := hM'
  have hkx : TyV G.S w (isAggT P k, sch P k) kx (a.eval x) := decTy_rel h.obj (ev_rel h x) hx
  have hvy : TyV G.S w (va, vs) vy (a.eval y) := decTy_rel h.obj (ev_rel h y) hy
  have hke : a.eval x = keyV P k kx := tyV_key K.flat hkx
  obtain ⟨r, hfind, hr2⟩ := K.find w kx (xs.map (·.1)) es.toList (hr.keys K.flat)
  have hin : EntR G.S w (isAggT P k) va (sch P k) vs (kx, vy) { key := keyV P k kx, val := a.eval y, born := clock } := ⟨hke ▸ hkx, hvy⟩
  have hin2 : ∀ n, EntR G.S w (isAggT P k) va (sch P k) vs (kx, vy) { key := keyV P k kx, val := a.eval y, born := n } := fun n => hin
  -- the new entries
  have main : ∃ es' clock', (Instr.mapUpdate t (.map (some b)) (keyV P k kx) (a.eval y)).run P w = .ok () (w.putObj b (.map es' clock')) ∧ MapR G.S w (isAggT P k) va (sch P k) vs (mput (sch P k) vs xs kx vy) es' clock' := by
    rw [mapUpdate_run hu hb (K.check w false kx) r hfind]
    rw [mput_find]
    clear hfind
    revert hr2
    cases hfi : (xs.map (·.1)).findIdx? ((sch P k).eqb kx) with
    | none =>
      intro hr2
      have hr2 : r = none := hr2
      subst hr2
      refine ⟨_, _, run_setObj_map _ hb, ?_, ?_, ?_⟩
      · show All2 _ (xs ++ [(kx, vy)]) _
        rw [Array.toList_push]
        exact hr.1.append ⟨hin, trivial⟩
      · intro e he
        simp only [Array.toList_push, List.mem_append, List.mem_singleton] at he
        rcases he with he | rfl
        · exact Nat.lt_succ_of_lt (hr.2.1 e he)
        · exact Nat.lt_succ_self _
      · simp only [Array.toList_push, List.map_append, List.map_cons, List.map_nil]
        refine List.nodup_append.2 ⟨hr.2.2, by simp, ?_⟩
        intro u hu v hv
        simp only [List.mem_singleton] at hv
        subst hv
        obtain ⟨e, he, rfl⟩ := List.mem_map.1 hu
        exact Nat.ne_of_lt (hr.2.1 e he)
    | some j =>
      rintro ⟨e0, he0, hr2⟩
      subst hr2
      have hpj : (sch P k).eqb kx ((xs.map (·.1)).getD j kx) = true := by
        obtain ⟨hlt, h1, _⟩ := List.findIdx?_eq_some_iff_getElem.1 hfi
        rw [List.getD_eq_getElem?_getD, List.getElem?_eq_getElem hlt]
        simpa using h1
      have hej : es[j]? = some e0 := by simpa using he0
      have hkey0 : e0.key = keyV P k ((xs.map (·.1)).getD j kx) := by
        obtain ⟨k0, hk0, hk1⟩ := (hr.keys K.flat).get' j e0 he0
        rw [hk1, List.getD_eq_getElem?_getD, hk0]
        rfl
      have hst := K.stays w kx _ hpj
      simp only [Sem.run_bind, hej, Option.map_some, Option.getD_some, hkey0, hst, Result.andThen_ok]
      refine ⟨_, _, run_setObj_map _ hb, ?_, ?_, ?_⟩
      · refine All2.of_get ?_ fun i x' e' hx' he' => ?_
        · have := hr.1.length
          simpa using this
        · rw [Array.getElem?_toList, Array.getElem?_modify] at he'
          rw [List.getElem?_set] at hx'
          by_cases hij : j = i
          · subst hij
            rw [if_pos rfl] at he' hx'
            have hlt : j < xs.length := by
              have h1 := hr.1.length
              have h2 := (Array.getElem?_eq_some_iff.1 hej).1
              simp at h1
              omega
            rw [if_pos hlt] at hx'
            rw [hej] at he'
            simp only [Option.map_some, Option.some.injEq] at he' hx'
            subst he' hx'
            exact hin2 _
          · rw [if_neg hij] at he' hx'
            obtain ⟨x2, h1, h2⟩ := hr.1.get' i e' (by simpa using he')
            rw [hx'] at h1
            simp only [Option.some.injEq] at h1
            subst h1
            exact h2
      · intro e he
        obtain ⟨i, hi⟩ := List.getElem?_of_mem he
        rw [Array.getElem?_toList, Array.getElem?_modify] at hi
        split at hi
        · simp only [Option.map_eq_some_iff] at hi
          obtain ⟨e1, h1, rfl⟩ := hi
          exact hr.2.1 e1 (List.mem_of_getElem? (by simpa using h1))
        · exact hr.2.1 e (List.mem_of_getElem? (by simpa using hi))
      · have : (es.modify j fun e => { e with key := keyV P k kx, val := a.eval y }).toList.map (·.born) = es.toList.map (·.born) := by
          apply List.ext_getElem?
          intro i
          simp only [List.getElem?_map, Array.getElem?_toList, Array.getElem?_modify]
          split
          · rename_i e; subst e; cases es[j]? <;> rfl
          · rfl
        rw [this]
        exact hr.2.2
  obtain ⟨es', clock', hrun, hr'⟩ := main
  have hR := h.turnH (ob' := .map (ver + 1) (isAggT P k) va (sch P k) vs (mput (sch P k) vs xs kx vy)) hp hM hb rfl (y := .map es' clock') rfl ⟨rfl, ver + 1, _, rfl, by omega⟩ hBb σ.dt (p :: σ.dob) (fun look' hx' hl => ⟨b, c, es', clock', hM, hBb, World.putObj_heap_same (Array.getElem?_eq_some_iff.1 hb).1, hr'.1.imp fun _ _ he => he.mono hx'.keeps, hr'.2⟩)
  refine .inl ⟨Go.undef, _, _, .inr ⟨?_, rfl⟩, hR.put o.dst (av := .skip) rfl, rfl⟩
  unfold execOp
  simp only [ho, hv, hke]
  simp [hrun, Result.andThen]

theorem encTy_rel1 {t : Ty} {x : t.2.D} {v : Value} (h : TyV G.S w t x v) : VR1 G w look (encTy t x) v := by
  obtain ⟨ag, s⟩ := t
  cases ag with
  | true =>
    obtain ⟨vs, e, hd⟩ := h
    exact ⟨vs, e, enc_rel hd⟩
  | false =>
    have hd : DR G.S w s x [v] := h
    have he : All2 (CR G w look) (s.enc x) [v] := enc_rel hd
    show VR1 G w look ((s.enc x).headD .undef) v
    cases hh : s.enc x with
    | nil => rw [hh] at he; exact he.elim
    | cons c r =>
      rw [hh] at he
      have h1 := he.1.1
      show VR1 G w look c v
      cases c <;> first | exact h1 | exact h1.elim

theorem op_lookup (h : Rel B w0 S0 G outs σ a w) {t k e : TypeId} {m x : Operand} {cm : Bool} (ho : o.op = .lookup t m x cm) (ht : mapT P t = some (k, e)) {p ver : Nat} {va : Bool} {vs : Sch} {xs : List ((sch P k).D × vs.D)} (hm : ev σ.tm m = .hnd true p) (hp : lk p σ.sto = some (.map ver (isAggT P k) va (sch P k) vs xs))
    (hkb : keyB P k = true) (hva : va = zeroAgg P e) {kx : (sch P k).D} (hx : decTy (lks σ) (isAggT P k, sch P k) (ev σ.tm x) = some kx) {zs : List AV} (hzs : zeroCs P e = some zs) {z : vs.D} (hz : vs.dec zs = some (z, [])) {ef : Eff}
    (he : (match cm with
      | true => one (.tup [encTy (va, vs) ((mget (sch P k) vs xs kx).getD z), .bool (mget (sch P k) vs xs kx).isSome])
      | false => one (encTy (va, vs) ((mget (sch P k) vs xs kx).getD z))) = some ef) : OpOK P B w0 S0 outs σ a w o ef := by
  have hu := mapT_parts ht
  have K := keyT_of hkb
  have hv := ev_rel h m
  rw [hm] at hv
  obtain ⟨_, b, c, hM, hv⟩ := hv
  obtain ⟨b', c', es, clock, hM', hBb, hb, hr⟩ := h.obj p _ hp
  rw [hM] at hM'
  simp only [Option.some.injEq, Prod.mk.injEq] at hM'
  obtain ⟨rfl, rfl⟩ := hM'
  have hkx : TyV G.S w (isAggT P k, sch P k) kx (a.eval x) := decTy_rel h.obj (ev_rel h x) hx
  have hke : a.eval x = keyV P k kx := tyV_key K.flat hkx
  obtain ⟨r, hfind, hr2⟩ := K.find w kx (xs.map (·.1)) es.toList (hr.keys K.flat)
  obtain ⟨zv, hzr, hza⟩ := zero_run hzs
  have hzt : TyV G.S w (va, vs) z zv := by
    have hd : DR G.S w vs z zv.cells.toList := full_rel (hza G w (lks σ)) (by simp [full, hz])
    have hzz := hzr w
    unfold zeroAgg at hva
    unfold zeroCs at hzs
    cases hi : P.info? e with
    | none => simp [hi] at hzs
    | some i =>
      rw [hi] at hva hzs
      simp only at hva hzs
      cases hzi : i.zero with
      | none => rw [hzi] at hzs; simp at hzs
      | some v0 =>
        have : v0 = zv := by
          have h9 := hzr (default : World)
          simpa [zeroValue, typeInfo, hi, hzi] using h9
        subst this
        rw [hzi] at hva hzs
        cases v0 with
        | agg cs =>
          simp only at hva
          subst hva
          exact ⟨cs, rfl, by simpa [Value.cells] using hd⟩
        | _ =>
          simp only at hva
          subst hva
          show DR G.S w vs z [_]
          simpa [Value.cells] using hd
  -- the value
  have main : ∃ v ok, (Instr.lookup t (.map (some b)) (keyV P k kx) cm).run P w = .ok (if cm then .tuple #[v, .bool ok] else v) w ∧ TyV G.S w (va, vs) ((mget (sch P k) vs xs kx).getD z) v ∧ ok = (mget (sch P k) vs xs kx).isSome := by
    rw [lookup_run hu hb (fun em => K.check w em kx) (hzr w) r hfind, mget_find]
    clear hfind
    revert hr2
    cases hfi : (xs.map (·.1)).findIdx? ((sch P k).eqb kx) with
    | none =>
      intro hr2
      have hr2 : r = none := hr2
      subst hr2
      exact ⟨zv, false, rfl, hzt, rfl⟩
    | some j =>
      rintro ⟨e0, he0, hr2⟩
      subst hr2
      obtain ⟨x0, hx0, hxe⟩ := hr.1.get' j e0 he0
      refine ⟨e0.val, true, rfl, ?_, by simp [hx0]⟩
      simp only [hx0, Option.map_some, Option.getD_some]
      exact hxe.2
  obtain ⟨v, ok, hrun, hvt, hok⟩ := main
  cases cm with
  | true =>
    rw [one_eq he]
    refine OpOK.of_value h (v := .tuple #[v, .bool ok]) ⟨_, rfl, ?_⟩ (.inl ?_)
    · refine ⟨?_, ?_, trivial⟩
      · exact encTy_rel1 hvt
      · show Value.bool ok = .bool _
        rw [hok]
    · unfold execOp
      simp only [ho, hv, hke]
      simp [hrun, Result.andThen]
  | false =>
    rw [one_eq he]
    refine OpOK.of_value h (v := v) (encTy_rel hvt) (.inl ?_)
    unfold execOp
    simp only [ho, hv, hke]
    simp [hrun, Result.andThen]

/-! ### walks over maps -/
theorem op_range (h : Rel B w0 S0 G outs σ a w) {t : TypeId} {ke : TypeId × TypeId} {m : Operand} (ho : o.op = .range t m) (ht : mapT P t = some ke) {p ver : Nat} {ka va : Bool} {ks vs : Sch} {xs : List (ks.D × vs.D)} (hm : ev σ.tm m = .hnd true p) (hp : lk p σ.sto = some (.map ver ka va ks vs xs)) {site : Nat} (hs : lk site σ.sto = none) :
    OpOK P B w0 S0 outs σ a w o ⟨true, true, none, .hnd false site, [(site, .it p ver ks vs xs [])]⟩ := by
  have hu := mapT_parts ht
  have hv := ev_rel h m
  rw [hm] at hv
  obtain ⟨_, b, c, hM, hv⟩ := hv
  obtain ⟨b', c', es, clock, hM', hBb, hb, hr⟩ := h.obj p _ hp
  rw [hM] at hM'
  simp only [Option.some.injEq, Prod.mk.injEq] at hM'
  obtain ⟨rfl, rfl⟩ := hM'
  have hps : p ≠ site := fun e => by subst e; rw [hp] at hs; cases hs
  have hlt : b < w.heap.size := (Array.getElem?_eq_some_iff.1 hb).1
  have hR := h.newAny hs (.it p ver ks vs xs []) (.mapIter (some b) clock #[] clock) 0 σ.dt (site :: σ.dob) (fun look' hx => by
    obtain ⟨k1, ver', xs', k2, k3, k4⟩ := hx.map p ver ka va ks vs xs hp
    refine ⟨w.heap.size, 0, b, c, clock, #[], clock, ver', ka, va, ks, vs, xs', by simp, h.fresh, heap_new w _, k2, k3, k1.trans hM, fun e => ?_⟩
    refine ⟨rfl, rfl, es, clock, ((k4 e.symm).2 b c hM).trans hb, rfl, rfl, ⟨es.toList, ?_, hr.1.imp fun _ _ he => he.mono hx.keeps⟩, fun c hc => by simp at hc⟩
    have : leftOf es #[] = es := by unfold leftOf; simp
    rw [this])
  refine .inl ⟨.pointer (some ⟨w.heap.size, 0, none⟩), _, _, .inl ?_, hR.put o.dst (av := .hnd false site) ?_, rfl⟩
  · unfold execOp
    have hrun : (Instr.range t (.map (some b))).run P w = .ok (.pointer (some ⟨w.heap.size, 0, none⟩)) (w.alloc (.mapIter (some b) clock #[] clock)) := by
      unfold Instr.range
      simp only [Sem.run_bind, run_underlying hu, Result.andThen_ok, run_getMap hb, Sem.run_pure, run_newObj_alloc]
    simp only [ho, hv, Sem.run_bind, hrun, Result.andThen_ok, Sem.run_pure]
  · exact ⟨⟨.it p ver ks vs xs [], by simp [lks, lk_ups], rfl⟩, w.heap.size, 0, by simp, rfl⟩

theorem op_entry (h : Rel B w0 S0 G outs σ a w) {x : Operand} (ho : o.op = .entry x) {p mo ver : Nat} {ks vs : Sch} {left : List (ks.D × vs.D)} {c : ks.D × vs.D} (hx : ev σ.tm x = .hnd false p) (hp : lk p σ.sto = some (.it mo ver ks vs left [c])) {ka va : Bool} {ks' vs' : Sch} {xs : List (ks'.D × vs'.D)} (hmo : lk mo σ.sto = some (.map ver ka va ks' vs' xs))
    {ef : Eff} (he : one (.tup [encTy (ka, ks) c.1, encTy (va, vs) c.2]) = some ef) : OpOK P B w0 S0 outs σ a w o ef := by
  have hv := ev_rel h x
  rw [hx] at hv
  obtain ⟨_, b, c1, hM, hv⟩ := hv
  obtain ⟨b', c', bm, c2, since, seen, last, ver', ka', va', ks2, vs2, xs2, hM', hBb, hb, hl, hle, hMm, hr⟩ := h.obj p _ hp
  rw [hM] at hM'
  simp only [Option.some.injEq, Prod.mk.injEq] at hM'
  obtain ⟨rfl, rfl⟩ := hM'
  have hl : lk mo σ.sto = _ := hl
  rw [hmo] at hl
  simp only [Option.some.injEq, Ob.map.injEq] at hl
  obtain ⟨rfl, rfl, rfl, rfl, rfl, e⟩ := hl
  obtain ⟨rfl, rfl, es, clock, hbm, rfl, rfl, _, hcur⟩ := hr rfl
  obtain ⟨e0, he0, hent, seen', rfl⟩ := hcur c (by simp)
  obtain ⟨bm', cm', es', clock', hMm', _, hbm', hmr⟩ := h.obj mo _ hmo
  rw [hMm] at hMm'
  simp only [Option.some.injEq, Prod.mk.injEq] at hMm'
  obtain ⟨rfl, rfl⟩ := hMm'
  rw [hbm] at hbm'
  simp only [Option.some.injEq, Obj.map.injEq] at hbm'
  obtain ⟨rfl, rfl⟩ := hbm'
  have hrun := run_entry_at (P := P) w b bm last seen' es last e0 hb hbm he0 hmr.2.2
  rw [one_eq he]
  refine OpOK.of_value h (v := .tuple #[e0.key, e0.val]) ⟨_, rfl, encTy_rel1 hent.1, encTy_rel1 hent.2, trivial⟩ (.inl ?_)
  unfold execOp
  have hv : a.eval x = .pointer (some ⟨b, 0, none⟩) := hv
  simp only [ho, hv, Sem.run_bind, hrun, Result.andThen_ok, Sem.run_pure]

theorem perm_erase {l : List MapEntry} {L : List MapEntry} (hp : L.Perm l) (hn : (l.map (·.born)).Nodup) {i : Nat} {e : MapEntry} (hi : L[i]? = some e) : (L.eraseIdx i).Perm (l.filter fun x => !(x.born == e.born)) := by
  have hlt : i < L.length := (List.getElem?_eq_some_iff.1 hi).1
  have h1 : L.Perm (e :: L.eraseIdx i) := by
    have he : L[i] = e := (List.getElem?_eq_some_iff.1 hi).2
    rw [List.eraseIdx_eq_take_drop_succ]
    refine List.Perm.trans (List.Perm.of_eq ?_) (List.perm_middle (a := e))
    rw [← he, ← List.drop_eq_getElem_cons hlt, List.take_append_drop]
  have h2 : (e :: L.eraseIdx i).Perm l := h1.symm.trans hp
  have hn2 : ((e :: L.eraseIdx i).map (·.born)).Nodup := (h2.map _).nodup_iff.2 hn
  simp only [List.map_cons, List.nodup_cons] at hn2
  have h3 := (h2.filter fun x => !(x.born == e.born))
  have h4 : (e :: L.eraseIdx i).filter (fun x => !(x.born == e.born)) = L.eraseIdx i := by
    rw [List.filter_cons]
    simp only [beq_self_eq_true, Bool.not_true, Bool.false_eq_true, if_false]
    rw [List.filter_eq_self]
    intro y hy
    have : y.born ≠ e.born := fun h => hn2.1 (List.mem_map.2 ⟨y, hy, h⟩)
    simpa using this
  rw [h4] at h3
  exact h3

theorem all2_erase {α β : Type} {R : α → β → Prop} : ∀ (n : Nat) {l : List α} {m : List β}, All2 R l m → All2 R (l.eraseIdx n) (m.eraseIdx n)
  | _, [], [], _ => by simp [All2]
  | 0, _ :: _, _ :: _, h => h.2
  | n + 1, _ :: _, _ :: _, h => ⟨h.1, all2_erase n h.2⟩
  | _, [], _ :: _, h => h.elim
  | _, _ :: _, [], h => h.elim

/-- A step of a walk: nothing is left, or one of what is left comes, whichever. -/
theorem op_next (h : Rel B w0 S0 G outs σ a w) {x : Operand} (ho : o.op = .next x false) {p mo ver : Nat} {ks vs : Sch} {left cur : List (ks.D × vs.D)} (hx : ev σ.tm x = .hnd false p) (hp : lk p σ.sto = some (.it mo ver ks vs left cur)) {ka va : Bool} {ks' vs' : Sch} {xs : List (ks'.D × vs'.D)} (hmo : lk mo σ.sto = some (.map ver ka va ks' vs' xs)) :
    (left.length = 0 ∧ Done P o a w (.tuple #[.bool false]) w) ∨
    ∃ i w' v, i < left.length ∧ Done P o a w v w' ∧ VR G w' (fun q => lk q (ups p (.it mo ver ks vs (left.eraseIdx i) (curOf left i)) σ.sto)) (.tup [.bool true, .undef, .undef]) v ∧
      Rel B w0 S0 G outs { σ with sto := ups p (.it mo ver ks vs (left.eraseIdx i) (curOf left i)) σ.sto, dob := p :: σ.dob } a w' := by
  have hv := ev_rel h x
  rw [hx] at hv
  obtain ⟨_, b, c1, hM, hv⟩ := hv
  have hv : a.eval x = .pointer (some ⟨b, 0, none⟩) := hv
  obtain ⟨b', c', bm, c2, since, seen, last, ver', ka', va', ks2, vs2, xs2, hM', hBb, hb, hl, hle, hMm, hr⟩ := h.obj p _ hp
  rw [hM] at hM'
  simp only [Option.some.injEq, Prod.mk.injEq] at hM'
  obtain ⟨rfl, rfl⟩ := hM'
  have hl : lk mo σ.sto = _ := hl
  rw [hmo] at hl
  simp only [Option.some.injEq, Ob.map.injEq] at hl
  obtain ⟨rfl, rfl, rfl, rfl, rfl, e⟩ := hl
  obtain ⟨rfl, rfl, es, clock, hbm, rfl, rfl, ⟨L, hperm, hL⟩, hcur⟩ := hr rfl
  obtain ⟨bm', cm', es', clock', hMm', _, hbm', hmr⟩ := h.obj mo _ hmo
  rw [hMm] at hMm'
  simp only [Option.some.injEq, Prod.mk.injEq] at hMm'
  obtain ⟨rfl, rfl⟩ := hMm'
  rw [hbm] at hbm'
  simp only [Option.some.injEq, Obj.map.injEq] at hbm'
  obtain ⟨rfl, rfl⟩ := hbm'
  have hLl : left.length = L.length := hL.length
  have hpl : L.length = (leftOf es seen).size := by rw [hperm.length_eq]; simp
  rcases run_next_at (P := P) w 0 b bm last last seen es last hb hbm hmr.2.1 (Nat.le_refl _) with ⟨h0, hrun⟩ | ⟨e0, he0, w1, hw1, hrun⟩
  · refine .inl ⟨by omega, .inl ?_⟩
    unfold execOp
    have : (Instr.next (.pointer (some ⟨b, 0, none⟩)) false o.type).run P w = .ok (.tuple #[.bool false]) w := hrun
    simp only [ho, hv]
    simp [this, Result.andThen]
  · have hmem : e0 ∈ L := hperm.mem_iff.2 he0
    obtain ⟨i, hi⟩ := List.getElem?_of_mem hmem
    obtain ⟨c, hc, hce⟩ := hL.get' i e0 hi
    have hil : i < left.length := (List.getElem?_eq_some_iff.1 hc).1
    have hw1h : w1.heap = w.heap := by rcases hw1 with rfl | rfl <;> rfl
    have h1 : Rel B w0 S0 G outs σ a w1 := by
      rcases hw1 with rfl | rfl
      · exact h
      · exact h.drew
    have hb1 : w1.heap[b]? = some (.mapIter (some bm) last seen last) := by rw [hw1h]; exact hb
    refine .inr ⟨i, w1.putObj b (.mapIter (some bm) last (seen.push e0.born) last), .tuple #[.bool true, e0.key, e0.val], hil, .inl ?_, ⟨_, rfl, rfl, trivial, trivial, trivial⟩, ?_⟩
    · unfold execOp
      simp only [ho, hv]
      have : (Instr.next (.pointer (some ⟨b, 0, none⟩)) false o.type).run P w = .ok (.tuple #[.bool true, e0.key, e0.val]) (w1.putObj b (.mapIter (some bm) last (seen.push e0.born) last)) := by
        exact hrun
      simp [this, Result.andThen]
    · have hmop : mo ≠ p := fun e => by rw [e, hp] at hmo; cases hmo
      refine h1.turnH (c := c1) (ob' := .it mo ver _ _ (left.eraseIdx i) (curOf left i)) hp hM hb1 rfl (y := .mapIter (some bm) last (seen.push e0.born) last) rfl ⟨rfl, _, _, rfl⟩ hBb σ.dt (p :: σ.dob) (fun look' hx' hlk => ?_)
      obtain ⟨k1, ver'', xs', k2, k3, k4⟩ := hx'.map mo ver _ _ _ _ _ hmo
      have hev : ver'' = ver := by
        rw [hlk] at k2
        have k2 : lk mo (ups p _ σ.sto) = _ := k2
        rw [lk_ups, if_neg hmop, hmo] at k2
        simp only [Option.some.injEq, Ob.map.injEq] at k2
        exact k2.1.symm
      refine ⟨b, c1, bm, c2, last, seen.push e0.born, last, _, _, _, _, _, _, hM, hBb, World.putObj_heap_same (Array.getElem?_eq_some_iff.1 hb1).1, k2, k3, k1.trans hMm, fun _ => ?_⟩
      refine ⟨rfl, rfl, es, last, ((k4 hev).2 bm c2 hMm).trans (by rw [hw1h]; exact hbm), rfl, rfl, ⟨L.eraseIdx i, ?_, ?_⟩, fun c' hc' => ?_⟩
      · have hn : ((leftOf es seen).toList.map (·.born)).Nodup := by
          refine List.Sublist.nodup (List.Sublist.map _ ?_) hmr.2.2
          unfold leftOf
          simp only [Array.toList_filter]
          exact List.filter_sublist
        have hpe := perm_erase hperm hn hi
        refine hpe.trans (List.Perm.of_eq ?_)
        unfold leftOf
        simp only [Array.toList_filter, List.filter_filter]
        congr 1
        funext y
        simp only [Array.contains_push]
        cases h1 : seen.contains y.born <;> cases h2 : (y.born == e0.born) <;> simp [h1, h2]
      · refine (all2_erase i hL).imp fun _ _ he => EntR.mono (S := G.S) (w := w) (fun b' o' hs => ?_) he
        have := hx'.keeps b' o' hs
        refine ⟨this.1, this.2.trans ?_⟩
        rcases hw1 with rfl | rfl <;> rfl
      · unfold curOf at hc'
        rw [List.getD_eq_getElem?_getD, hc, Option.getD_some] at hc'
        simp only [List.mem_singleton] at hc'
        subst hc'
        refine ⟨e0, ?_, EntR.mono (S := G.S) (w := w) (fun b' o' hs => ?_) hce, seen, rfl⟩
        · unfold leftOf at he0
          simp only [Array.toList_filter, List.mem_filter] at he0
          exact he0.1
        · have := hx'.keeps b' o' hs
          refine ⟨this.1, this.2.trans ?_⟩
          rcases hw1 with rfl | rfl <;> rfl
end
end
end Go.Pi
end

section
namespace Go.Pi
open Go.RowKit
set_option linter.unusedSimpArgs false
set_option linter.unusedVariables false

theorem withPre_iff {p : Option Prop} {k : Prop} : withPre p k ↔ preH p ∧ k := by
  cases p <;> simp [withPre, preH]

theorem br_true {b : Bool} {x y : Prop} (hb : b = true) (h : br b x y) : x := by subst hb; exact h
theorem br_false {b : Bool} {x y : Prop} (hb : b = false) (h : br b x y) : y := by subst hb; exact h
theorem br_no {b : Bool} {x : Prop} (h : br b x False) : b = true ∧ x := by cases b; exact h.elim; exact ⟨rfl, h⟩

section
variable {P : Program} {B : Nat → Prop} {w0 : World} {S0 : Cells} {G G' : Gh} {outs : Outs} {σ : St} {a : Act} {w w' : World} {o : Oper} {look : Look}
variable {K : Act → World → Prop} {Q : Exit → Act → World → Prop}

theorem plainT_parts {t : TypeId} (h : plainT P t = true) : ∃ d, P.underlying t = some d ∧ ∀ ms, d ≠ .interface ms := by
  unfold plainT at h
  cases hu : P.underlying t with
  | none => simp [hu] at h
  | some d =>
    refine ⟨d, rfl, fun ms e => ?_⟩
    subst e
    simp [hu] at h

theorem asPel_str {look : Look} {v : AV} {b : ByteArray} (h : asPel look v = .str b) : v = .str b := by
  unfold asPel at h
  split at h
  · split at h
    · split at h <;> cases h
    · cases h
  · exact h
theorem optInt_none {ρ : Operand → AV} {x : Option Operand} (h : optInt ρ x = some none) : x = none := by
  cases x with
  | none => rfl
  | some y => simp only [optInt] at h; split at h <;> simp at h
theorem optInt_some {ρ : Operand → AV} {x : Option Operand} {n : Int} (h : optInt ρ x = some (some n)) : ∃ y k, x = some y ∧ ρ y = .int k n := by
  cases x with
  | none => simp [optInt] at h
  | some y =>
    simp only [optInt] at h
    split at h
    · rename_i k m hy
      simp at h; subst h
      exact ⟨y, k, rfl, hy⟩
    · simp at h

theorem elemT_under {t e : TypeId} (h : elemT P t = some e) : P.underlying t = some (.slice e) := by
  unfold elemT at h
  split at h
  · rename_i e' hu
    simp at h; subst h; exact hu
  · simp at h

set_option maxHeartbeats 4000000 in
theorem opF_sound (hP : ProgOK P) {E : Env} (hE : EnvOK P E) {own : List Nat} {site : Nat} (h : Rel B w0 S0 G outs σ a w) {e : Eff} (he : opF P E own site (ev σ.tm) (lks σ) o = some e) (hc : e.chk = true) (hpre : preH e.pre)
    (hk : ∀ v w' G', Rel B w0 S0 G' outs (appEff o.dst σ e.val e.upd) (a.put o.dst v) w' → e.room = true → K (a.put o.dst v) w') : WP P o a w K Q := by
  have fin : OpOK P B w0 S0 outs σ a w o e → WP P o a w K Q := fun hok => wp_of_ok hok hk
  cases ho : o.op <;> simp only [opF, oPick, oAlloc, oBox, oLoad, oStore, oFieldAddr, oIndexAddr, oIndex, oField, oBinOp, oUnOp, oConvert, oBuild, oBuildSlice, oExtract, oMakeFunc, oMakeSlice, oSlice, oCall, oMakeMap, oMapUpdate, oLookup, oRange, oSliceToArrayPointer, oNilCheck, oEntry, oBinInt, oBinBool, oBinStr, oBinAgg, oBinSl, oBinNil, oClen, oCappend, oCmax, oCmin, oCvalue, ho] at he <;> try (simp at he; done)
  case move x => exact fin (op_move h (.inl ho) he)
  case assign x => exact fin (op_move h (.inr ho) he)
  case pick c x y =>
    split at he
    · rename_i b hb
      exact fin (op_pick h ho hb (by cases b <;> exact he))
    · simp at he
  case alloc t =>
    split at he
    · rename_i zs hs hz
      split at he
      · rename_i m el hu
        split at he
        · rename_i hpos
          split at he
          · rename_i xs hx
            obtain rfl := Option.some.inj he
            exact fin (op_alloc h ho hs hz (.inr ⟨_, m, xs, hpos, hx, rfl⟩))
          · simp at he
        · simp at he
      · obtain rfl := Option.some.inj he
        exact fin (op_alloc h ho hs hz (.inl rfl))
    · simp at he
  case box t x =>
    split at he
    · rename_i vs hs hz
      split at he
      · rename_i m el hu
        split at he
        · rename_i hpos
          split at he
          · rename_i xs hx
            obtain rfl := Option.some.inj he
            exact fin (op_box h ho hs hz (.inr ⟨_, m, xs, hpos, hx, rfl⟩))
          · simp at he
        · simp at he
      · obtain rfl := Option.some.inj he
        exact fin (op_box h ho hs hz (.inl rfl))
    · simp at he
  case load t x =>
    split at he
    · rename_i r hr
      split at he
      · rename_i hok
        exact fin (op_load h ho hr hok he hc)
      · simp at he
    · simp at he
  case store t x y =>
    split at he
    · rename_i vs hz
      split at he
      · rename_i hok
        split at he
        · rename_i u hu
          obtain rfl := Option.some.inj he
          exact fin (op_store h ho hz hok.1 hok.2 hu hc)
        · simp at he
      · simp at he
    · simp at he
  case fieldAddr t x f =>
    split at he
    · rename_i fs hu
      split at he
      · rename_i fd hf
        split at he
        · simp at he
        · rename_i hcond
          simp only [not_or, Bool.not_eq_true, Option.isNone_eq_false_iff, Bool.not_eq_false] at hcond
          exact fin (op_fieldAddr h ho hu hf hcond.1 hcond.2.1 hcond.2.2 he)
      · simp at he
    · simp at he
  case indexAddr t x i =>
    have close : ∀ {av : AV} {c : Bool}, chk1 c av = some e → (∃ v, Done P o a w v w ∧ VR G w (lks σ) av v) → WP P o a w K Q := by
      intro av c h1 ⟨v, hd, hv⟩
      refine fin ?_
      rw [chk1_eq h1]
      exact OpOK.of_value h hv hd
    split at he
    · rename_i k n hi
      split at he
      · rename_i m el ob off hu hx
        split at he
        · rename_i m' ver s xs hob
          split at he
          · split at he
            · rename_i hcond
              obtain ⟨hs, rfl, hinf⟩ := hcond
              have hc' := hc
              rw [chk1_eq he] at hc'
              simp at hc'
              exact close he (op_indexAddr h ho hi hc'.1 hinf (.inl ⟨m', ob, ver, s, xs, hu, hx, hob, hs, hc'.2, rfl⟩))
            · simp at he
          · simp at he
        · rename_i fz cs hob
          split at he
          · rename_i hel
            obtain ⟨hinf, hs⟩ := elOk_parts hel
            have hc' := hc
            rw [chk1_eq he] at hc'
            simp at hc'
            exact close he (op_indexAddr h ho hi hc'.1 hinf (.inr (.inl ⟨m, ob, off, fz, cs, hu, hx, hob, hs, hc'.2, rfl⟩)))
          · simp at he
        · simp at he
      · rename_i el ex s xs hu hx
        split at he
        · rename_i hcond
          have hc' := hc
          rw [chk1_eq he] at hc'
          simp at hc'
          exact close he (op_indexAddr h ho hi hc'.1 hcond.2 (.inr (.inr (.inl ⟨ex, s, xs, hu, hx, hcond.1, hc'.2, rfl⟩))))
        · simp at he
      · rename_i el ob ver hu hx
        split at he
        · rename_i m ver' s xs hob
          split at he
          · rename_i hver
            subst hver
            split at he
            · rename_i hcond
              have hc' := hc
              rw [chk1_eq he] at hc'
              simp at hc'
              exact close he (op_indexAddr h ho hi hc'.1 hcond.2 (.inr (.inr (.inr ⟨ob, ver, m, s, xs, hu, hx, hob, hcond.1, hc'.2, rfl⟩))))
            · simp at he
          · simp at he
        · simp at he
      · rename_i m el s xs j off hu hx
        split at he
        · rename_i hinf
          have hc' := hc
          rw [chk1_eq he] at hc'
          simp at hc'
          exact close he (op_indexAddr2 h ho hi hc'.1 hinf hu hc'.2 (.inl ⟨s, xs, j, off, hx, rfl⟩))
        · simp at he
      · rename_i m el ob base s m' j off hu hx
        split at he
        · rename_i hinf
          have hc' := hc
          rw [chk1_eq he] at hc'
          simp at hc'
          exact close he (op_indexAddr2 h ho hi hc'.1 hinf hu hc'.2 (.inr (.inl ⟨ob, base, s, m', j, off, hx, rfl⟩)))
        · simp at he
      · rename_i m el ob ver j off hu hx
        split at he
        · rename_i hcond
          have hc' := hc
          rw [chk1_eq he] at hc'
          simp at hc'
          exact close he (op_indexAddr2 h ho hi hc'.1 hcond.1 hu hc'.2 (.inr (.inr ⟨ob, ver, j, off, hx, hcond.2, rfl⟩)))
        · simp at he
      · simp at he
    · simp at he
  case index t x i =>
    split at he
    · rename_i m el cs k n hu hx hi
      split at he
      · rename_i hel
        split at he
        · rename_i xs hd
          exact fin (op_index h ho hu hx hi hel.1 hel.2 hd hc he)
        · simp at he
      · split at he
        · rename_i hel
          exact fin (op_index2 h ho hu hx hi hel.1 hel.2 hc he)
        · simp at he
    · rename_i s k n hu hx hi
      exact fin (op_indexStr h ho hu hx hi hc he)
    · simp at he
  case field t x f =>
    split at he
    · rename_i fs cs hu hx
      split at he
      · rename_i fd hf
        split at he
        · rename_i hcond
          exact fin (op_field h ho hu hf hx hcond.1 hcond.2 he)
        · simp at he
      · simp at he
    · simp at he
  case binOp op t x y t' =>
    split at he
    · rename_i k n k' m hx hy
      split at he
      · exact fin (op_shift h ho hx hy hc (.inl ⟨rfl, he⟩))
      · exact fin (op_shift h ho hx hy hc (.inr ⟨rfl, he⟩))
      · rename_i h1 h2
        split at he
        · rename_i hkk
          subst hkk
          exact fin (op_binInt h ho hx hy ⟨fun e => h1 e, fun e => h2 e⟩ he hc)
        · simp at he
    · rename_i n m hx hy
      split at he
      · rename_i hu
        split at he
        · exact fin (op_binBool h ho hx hy hu (.inl ⟨rfl, he⟩))
        · exact fin (op_binBool h ho hx hy hu (.inr ⟨rfl, he⟩))
        · simp at he
      · simp at he
    · rename_i n m hx hy
      exact fin (op_binStr h ho hx hy hc (by split at he <;> first | exact he | (simp at he; done)))
    · rename_i n m hx hy
      split at he
      · simp at he
      · rename_i hcond
        simp only [not_or, Bool.not_eq_true, Bool.not_eq_false] at hcond
        split at he
        · rename_i c heq
          exact fin (op_binAgg h ho hx hy hcond.1 hcond.2 heq (.inl ⟨rfl, he⟩))
        · rename_i c heq
          exact fin (op_binAgg h ho hx hy hcond.1 hcond.2 heq (.inr ⟨rfl, he⟩))
        · simp at he
    · rename_i ex sc xs hx hy
      split at he
      · rename_i el hu
        exact fin (op_binNil h ho hx hy hu hc (.inl ⟨rfl, he⟩))
      · rename_i el hu
        exact fin (op_binNil h ho hx hy hu hc (.inr ⟨rfl, he⟩))
      · simp at he
    · rename_i hx hy
      split at he
      · rename_i el hu
        exact fin (op_nilNil h ho hx hy hu (.inl ⟨rfl, he⟩))
      · rename_i el hu
        exact fin (op_nilNil h ho hx hy hu (.inr ⟨rfl, he⟩))
      · simp at he
    · simp at he
  case unOp op t x =>
    split at he
    · rename_i k n hx
      exact fin (op_unOp h ho (.inl ⟨k, n, rfl, hx, he⟩))
    · rename_i b hx
      exact fin (op_unOp h ho (.inr ⟨b, rfl, hx, he⟩))
    · simp at he
  case convert src dst x =>
    split at he
    · rename_i k k' n hd hx
      split at he
      · rename_i hs
        exact fin (op_convert h ho hd hs hx he)
      · simp at he
    · simp at he
  case build t ps =>
    split at he
    · rename_i zs hz
      split at he
      · simp at he
      · rename_i hb
        split at he
        · rename_i cs hf
          exact fin (op_build h ho hz (by simpa using hb) hf he)
        · simp at he
    · simp at he
  case buildSlice t len ps =>
    split at he
    · rename_i el hel
      split at he
      · rename_i zs hz
        split at he
        · rename_i z hd
          split at he
          · rename_i hcond
            split at he
            · rename_i xs hs
              split at he
              · exact fin (op_buildSlice h ho (elemT_under hel) hz hd hcond.1 hcond.2.1 hcond.2.2 hs he)
              · split at he
                · rename_i hsite
                  obtain rfl := Option.some.inj he
                  exact fin (op_buildSliceOwn h ho (elemT_under hel) hz hd hcond.1 hcond.2.1 hcond.2.2 hs hsite)
                · simp at he
            · simp at he
          · simp at he
        · simp at he
      · simp at he
    · simp at he
  case extract x i =>
    split at he
    · rename_i vs hx
      split at he
      · rename_i hi
        exact fin (op_extract h ho hx hi he)
      · simp at he
    · simp at he
  case makeFunc fv first cap =>
    split at he
    · rename_i f l hfst hl
      exact fin (op_makeFunc h ho hfst hl he)
    · simp at he
  case makeSlice t x y =>
    split at he
    · rename_i el n c hel hx hy
      split at he
      · simp at he
      · rename_i hsite
        split at he
        · rename_i z hz
          split at he
          · rename_i hcond
            cases hzz : zeroCs P el with
            | none => simp [hzz] at hz
            | some zs =>
              simp [hzz] at hz
              exact fin (op_makeSlice h ho (elemT_under hel) hx hy hzz hz hcond.1 hcond.2.1 hcond.2.2 hsite hc he)
          · simp at he
        · simp at he
    · simp at he
  case slice t x lo hi mx =>
    split at he
    · rename_i l r hmx hl hr
      split at he
      · rename_i el hel
        split at he
        · rename_i xs hx
          split at he
          · rename_i hcond
            exact fin (op_slice h ho (elemT_under hel) hl hr hx hcond.1 hc he)
          · simp at he
        · simp at he
      · split at he
        · rename_i s hu hx
          exact fin (op_sliceStr h ho hu hl hr (asPel_str hx) hc he)
        · rename_i m el s xs j off hu hx
          split at he
          · split at he
            · rename_i ys hd
              split at he
              · rename_i hcond
                exact fin (op_slicePel h ho hu hl hr hx hd hcond.1 hcond.2.2.1 hcond.2.2.2.1 hcond.2.2.2.2 he)
              · simp at he
            · simp at he
          · simp at he
        · simp at he
    · rename_i m n hl hr
      split at he
      · rename_i el k' c hel hm
        split at he
        · rename_i xs hx
          split at he
          · rename_i hcond
            obtain rfl := optInt_none hl
            obtain ⟨y, k, rfl, hy⟩ := optInt_some hr
            exact fin (op_clip h ho (elemT_under hel) hy hm hx hcond.1 hc he)
          · simp at he
        · simp at he
      · simp at he
    · simp at he
  case makeInterface t x =>
    split at he
    · rename_i hp
      obtain ⟨d, hu, hd⟩ := plainT_parts hp
      exact fin (op_makeInterface h ho hu hd he)
    · simp at he
  case makeMap t n =>
    cases n with
    | some _ => simp at he
    | none =>
      simp only at he
      split at he
      · rename_i k e' hm hs
        split at he
        · obtain rfl := Option.some.inj he
          exact fin (op_makeMap h ho hs _ _ _ _)
        · simp at he
      · simp at he
  case mapUpdate t m x y =>
    split at he
    · rename_i k e' p ht hm
      split at he
      · rename_i ver ka va ks vs xs hp
        split at he
        · rename_i hcond
          obtain ⟨rfl, hkb, rfl⟩ := hcond
          split at he
          · rename_i kx vy hx hy
            obtain rfl := Option.some.inj he
            exact fin (op_mapUpdate h ho ht hm hp hkb hx hy)
          · simp at he
        · simp at he
      · simp at he
    · simp at he
  case lookup t m x cm =>
    split at he
    · rename_i k e' p ht hm
      split at he
      · rename_i ver ka va ks vs xs hp
        split at he
        · rename_i hcond
          obtain ⟨rfl, hkb, rfl, hva⟩ := hcond
          split at he
          · rename_i kx z hx hz
            cases hzz : zeroCs P e' with
            | none => simp [hzz] at hz
            | some zs =>
              simp [hzz] at hz
              exact fin (op_lookup h ho ht hm hp hkb hva hx hzz hz (by cases cm <;> exact he))
          · simp at he
        · simp at he
      · simp at he
    · simp at he
  case range t m =>
    split at he
    · rename_i ke p ht hm hs
      split at he
      · rename_i ver ka va ks vs xs hp
        obtain rfl := Option.some.inj he
        exact fin (op_range h ho ht hm hp hs)
      · simp at he
    · simp at he
  case sliceToArrayPointer t x =>
    split at he
    · rename_i m el hu
      split at he
      · rename_i xs hx
        split at he
        · rename_i d hd
          split at he
          · rename_i hcond
            exact fin (op_arrayOf h ho hu hx hd hcond.2.2 hc he)
          · simp at he
        · simp at he
      · simp at he
    · simp at he
  case nilCheck x =>
    split at he
    · rename_i p off hx
      exact fin (op_nilCheck h ho hx he)
    · simp at he
  case entry x =>
    split at he
    · rename_i p hx
      split at he
      · rename_i mo ver ks vs left c hp
        split at he
        · rename_i ver' ka va ks' vs' xs hmo
          split at he
          · rename_i hcond
            obtain ⟨rfl, rfl, rfl⟩ := hcond
            exact fin (op_entry h ho hx hp hmo he)
          · simp at he
        · simp at he
      · simp at he
    · simp at he
  case call c =>
    cases hcal : c.callee <;> simp only [hcal] at he <;> try (simp at he; done)
    case builtin bi =>
      cases bi <;> simp only [] at he <;> try (simp at he; done)
      case len =>
        split at he
        · rename_i t x ht hx
          split at he
          · rename_i n el hu
            exact fin (op_len h ho hcal ht hx (.inl ⟨n, el, hu, he⟩))
          · rename_i el hu
            split at he
            · rename_i n hl
              exact fin (op_len h ho hcal ht hx (.inr (.inl ⟨el, n, hu, hl, he⟩)))
            · simp at he
          · rename_i hu
            split at he
            · rename_i s hs
              exact fin (op_len h ho hcal ht hx (.inr (.inr ⟨s, hu, hs, he⟩)))
            · simp at he
          · simp at he
        · simp at he
      case append =>
        split at he
        · rename_i t t' x y ht ht' hx hy
          split at he
          · rename_i el el' hel hel'
            split at he
            · rename_i hcond
              obtain ⟨h1, h2, h3, h4, h5, h6⟩ := hcond
              have hop : o.op = .call { callee := .builtin .append, args := #[x, y], argTypes := #[t, t'] } := by
                rw [ho]
                obtain ⟨cal, args, ats⟩ := c
                simp only at hcal ht ht' hx hy h5 h6
                subst hcal
                have e1 : args = #[x, y] := by
                  apply Array.ext
                  · simpa using h5
                  · intro i hi1 hi2
                    have : i = 0 ∨ i = 1 := by simp at hi2; omega
                    rcases this with rfl | rfl
                    · have := Array.getElem?_eq_getElem hi1; rw [hx] at this; simpa using this.symm
                    · have := Array.getElem?_eq_getElem hi1; rw [hy] at this; simpa using this.symm
                have e2 : ats = #[t, t'] := by
                  apply Array.ext
                  · simpa using h6
                  · intro i hi1 hi2
                    have : i = 0 ∨ i = 1 := by simp at hi2; omega
                    rcases this with rfl | rfl
                    · have := Array.getElem?_eq_getElem hi1; rw [ht] at this; simpa using this.symm
                    · have := Array.getElem?_eq_getElem hi1; rw [ht'] at this; simpa using this.symm
                rw [e1, e2]
              split at he
              · rename_i ys hys
                unfold appF at he
                split at he
                · rename_i hnil
                  split at he
                  · rename_i hsite
                    obtain rfl := Option.some.inj he
                    exact fin (op_append_nil h hop (elemT_under hel) (elemT_under hel') h1 h2 h3 h4 hys hnil hsite hc)
                  · simp at he
                · rename_i s' xs hxs
                  split at he
                  · rename_i hs
                    subst hs
                    obtain rfl := Option.some.inj he
                    exact fin (op_append_exact h hop (elemT_under hel) (elemT_under hel') h1 h2 h3 h4 hys hxs hc)
                  · simp at he
                · rename_i ob ver hxr
                  split at he
                  · rename_i m ver' s' xs hob
                    split at he
                    · rename_i hver
                      subst hver
                      split at he
                      · rename_i hs
                        subst hs
                        split at he
                        · obtain rfl := Option.some.inj he
                          exact fin (op_append_ref h hop (elemT_under hel) (elemT_under hel') h1 h2 h3 h4 hys hxr hob rfl hc)
                        · obtain rfl := Option.some.inj he
                          exact fin (op_append_ref h hop (elemT_under hel) (elemT_under hel') h1 h2 h3 h4 hys hxr hob rfl hc)
                        · simp at he
                      · simp at he
                    · simp at he
                  · simp at he
                · simp at he
              · simp at he
            · simp at he
          · simp at he
        · simp at he
      case max =>
        split at he
        · rename_i k n r hx
          split at he
          · rename_i v hf
            exact fin (op_maxmin h ho true hcal hx hf he)
          · simp at he
        · simp at he
      case min =>
        split at he
        · rename_i k n r hx
          split at he
          · rename_i v hf
            exact fin (op_maxmin h ho false hcal hx hf he)
          · simp at he
        · simp at he
    case value fv =>
      split at he
      · rename_i q hcl
        obtain ⟨en, avs⟩ := q
        split at he
        · rename_i x hx
          split at he
          · obtain rfl := Option.some.inj he
            exact op_callPure hP hE h ho hcal hcl hx hpre fun v w' G' hR => hk v w' G' hR rfl
          · have he0 := he
            unfold callOwn at he0
            split at he0
            · split at he0
              · obtain rfl := Option.some.inj he0
                exact op_callOwn hP hE h ho hcal hcl hx he hpre fun v w' G' hR => hk v w' G' hR rfl
              · simp at he0
            · simp at he0
        · simp at he
      · simp at he

end
end Go.Pi
end
