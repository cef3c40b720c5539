/- Typed data in the machine's memory, an evaluator of loaded code over it, and its proof, part 2. -/
import Derived.Test.YtdhekhichomoiaaPiA
import Derived.Room.AppendAny
import Derived.OrdersIn
import Derived.RangeFuncRecord
import Derived.RangeFuncNested
import Derived.Scope
import Derived.Lib.AppendZeros
import Derived.RangeFuncLeaves

section
namespace Go.Pi
open Go.RowKit
set_option linter.unusedSimpArgs false
set_option linter.unusedVariables false

section
variable {P : Program} {B : Nat → Prop} {w0 : World} {S0 : Cells} {G G' : Gh} {outs : Outs} {σ : St} {a : Act} {w w' : World} {o : Oper} {look : Look}

/-- Nothing named is turned. -/
theorem Rel.still (h : Rel B w0 S0 G outs σ a w) (hY : G'.Y = G.Y) (hk : Keeps G.S w G'.S w') (hM : G'.M = G.M)
    (hblk : ∀ p ob b c, lk p σ.sto = some ob → G.M p = some (b, c) → w'.heap[b]? = w.heap[b]? ∧ ∀ off, G'.S b off → G.S b off)
    (below : Bel B w0 w') (bsz : ∀ b, B b → b < w'.heap.size)
    (snew : ∀ b off, G'.S b off → G.S b off ∨ ¬ B b) (slt : ∀ b off, G'.S b off → b < w'.heap.size) : Rel B w0 S0 G' outs σ a w' := by
  have hx : Ext G w (lks σ) G' w' (lks σ) := ⟨hk, fun p fz cs hp => ⟨by rw [hM], fz, cs, hp⟩, fun p m ver s xs hp => ⟨m, ver, xs, hp, rfl, Nat.le_refl _, fun _ => rfl, fun _ => ⟨by rw [hM], rfl⟩⟩, hY⟩
  refine ⟨below, bsz, fun b off hs => (hk b off (h.s0 b off hs)).1, fun b off hs => ?_, slt, h.tml, fun t => VR.ext hx (h.tm t),
    h.outl.imp fun _ _ hl => ⟨hl.1, fun t => VR.ext hx (hl.2 t)⟩, fun p ob hp => ObR.ext hx (by rw [hM]) (fun b c hb => hblk p ob b c hp hb) (fun b off hs => (hk b off hs).1) (h.obj p ob hp), fun p p' ob ob' b c c' hp hp' hb hb' => ?_, hY.trans h.yeq⟩
  · rcases snew b off hs with h1 | h1
    · exact h.snew b off h1
    · exact .inr h1
  · rw [hM] at hb hb'
    exact h.inj p p' ob ob' b c c' hp hp' hb hb'

theorem Rel.drew (h : Rel B w0 S0 G outs σ a w) : Rel B w0 S0 G outs σ a w.drew :=
  h.still (G' := G) rfl (fun b o hs => ⟨hs, rfl⟩) rfl (fun _ _ _ _ _ _ => ⟨rfl, fun _ h => h⟩) h.below.drew h.bsz (fun _ _ h => .inl h) h.slt

/-- Marks on a new block's first cells. -/
def addS (S : Cells) (b k : Nat) : Cells := fun b' o => S b' o ∨ (b' = b ∧ o < k)

theorem keeps_new (h : Rel B w0 S0 G outs σ a w) (ob : Obj) (k : Nat) : Keeps G.S w (addS G.S w.heap.size k) (w.alloc ob) :=
  fun b o hS => ⟨.inl hS, World.cell?_alloc_lt w _ _ (h.slt b o hS)⟩

/-- The elements of a new block. -/
theorem elr_new {S : Cells} {s : Sch} {xs : List s.D} {vs : Array Value} {ty : TypeId} {k : Nat} (hk : Keeps S w (addS S w.heap.size k) (w.alloc (.cells vs ty))) (hd : DRN S w s xs (vs.toList.take (xs.length * s.size))) (hkk : k = xs.length * s.size) :
    ElR (addS S w.heap.size k) (w.alloc (.cells vs ty)) s xs w.heap.size 0 := by
  intro i x hx
  obtain ⟨ws, h1, h2⟩ := hd.get i x hx
  refine ⟨ws, DR.mono hk h1, fun j v hv => ?_⟩
  have h3 := h2 j v hv
  rw [List.getElem?_take] at h3
  split at h3
  · rename_i hlt
    refine ⟨.inr ⟨rfl, by omega⟩, ?_⟩
    rw [Nat.zero_add, cell_of_block (heap_new w _)]
    simpa using h3
  · simp at h3

/-- A new slice that nobody will turn. -/
theorem Rel.newFrozen (h : Rel B w0 S0 G outs σ a w) {s : Sch} {xs : List s.D} {vs : Array Value} {ty : TypeId} {cap : Nat} (hd : DRN G.S w s xs (vs.toList.take (xs.length * s.size))) (hle : xs.length ≤ cap) (hmx : cap ≤ 9223372036854775807) (ex : Bool) (hex : ex = true → cap = xs.length) :
    Rel B w0 S0 { G with S := addS G.S w.heap.size (xs.length * s.size) } outs σ a (w.alloc (.cells vs ty)) ∧
      VR { G with S := addS G.S w.heap.size (xs.length * s.size) } (w.alloc (.cells vs ty)) (lks σ) (.sl ex s xs) (.slice (some ⟨w.heap.size, 0, none⟩) xs.length cap) := by
  have hk := keeps_new h (.cells vs ty) (xs.length * s.size)
  refine ⟨h.still rfl hk rfl (fun p ob b c hp hb => ?_) (h.below.alloc h.bsz _) (fun b hb => by simp; exact Nat.lt_succ_of_lt (h.bsz b hb)) (fun b off hS => ?_) (fun b off hS => ?_), ⟨_, cap, rfl, hle, hmx, fun _ => ⟨w.heap.size, 0, rfl, elr_new hk hd rfl⟩⟩, fun e => ⟨_, by rw [hex e]⟩⟩
  · have hlt := (h.obj p ob hp).lt hb
    refine ⟨Below.heap_alloc w _ b hlt, fun off hS => ?_⟩
    rcases hS with hS | ⟨e, _⟩
    · exact hS
    · omega
  · rcases hS with hS | ⟨e, _⟩
    · exact .inl hS
    · exact .inr (e ▸ h.fresh)
  · rcases hS with hS | ⟨e, _⟩
    · simp; exact Nat.lt_succ_of_lt (h.slt b off hS)
    · subst e; simp

/-- An object in a new block. -/
theorem Rel.moveOb (h : Rel B w0 S0 G outs σ a w) {site k : Nat} (ob : Ob) (vs : Array Value) (ty : TypeId) (cap : Nat) (dt' dob' : List Nat)
    (hT : Turn G { G with S := addS G.S w.heap.size k, M := fun p => if p = site then some (w.heap.size, cap) else G.M p } site ob (lk site σ.sto))
    (hnew : Keeps G.S w (addS G.S w.heap.size k) (w.alloc (.cells vs ty)) → ∀ look' : Look, ObR B { G with S := addS G.S w.heap.size k, M := fun p => if p = site then some (w.heap.size, cap) else G.M p } (w.alloc (.cells vs ty)) look' site ob) :
    Rel B w0 S0 { G with S := addS G.S w.heap.size k, M := fun p => if p = site then some (w.heap.size, cap) else G.M p } outs { σ with sto := ups site ob σ.sto, dt := dt', dob := dob' } a (w.alloc (.cells vs ty)) := by
  have hk := keeps_new h (.cells vs ty) k
  have hM : ∀ p ob', p ≠ site → lk p σ.sto = some ob' → (if p = site then some (w.heap.size, cap) else G.M p) = G.M p := fun p _ e _ => by simp [e]
  refine h.upd1 (G' := { G with S := addS G.S w.heap.size k, M := fun p => if p = site then some (w.heap.size, cap) else G.M p }) rfl site ob dt' dob' hk hM (fun p ob' b c e hp hb => ?_) hT
    (hnew hk _) (fun p ob' b c c' e hp hb hb' => ?_) (h.below.alloc h.bsz _) (fun b hb => by simp; exact Nat.lt_succ_of_lt (h.bsz b hb)) (fun b off hS => ?_) (fun b off hS => ?_)
  · have hlt := (h.obj p ob' hp).lt hb
    refine ⟨Below.heap_alloc w _ b hlt, fun off hS => ?_⟩
    rcases hS with hS | ⟨e, _⟩
    · exact hS
    · omega
  · simp at hb'
    have := (h.obj p ob' hp).lt hb
    omega
  · rcases hS with hS | ⟨e, _⟩
    · exact .inl hS
    · exact .inr (e ▸ h.fresh)
  · rcases hS with hS | ⟨e, _⟩
    · simp; exact Nat.lt_succ_of_lt (h.slt b off hS)
    · subst e; simp

def growK (m : Mode) (n : Nat) : Nat := match m with
  | .grow => n
  | _ => 0

/-- .. with the elements told. -/
theorem arr_new {S : Cells} {Y : Nat → Option Nat} {M : Nat → Option (Nat × Nat)} {site ver k : Nat} {m : Mode} {s : Sch} {xs : List s.D} {vs : Array Value} {ty : TypeId} {cap : Nat} (hB : ¬ B w.heap.size) (hslt : ∀ b o, S b o → b < w.heap.size) (hpos : 0 < s.size) (hfix : m.fix = none)
    (hsz : vs.size = cap * s.size) (hle : xs.length ≤ cap) (hmx : cap ≤ 9223372036854775807) (hd : DRN S w s xs (vs.toList.take (xs.length * s.size))) (hkk : k = growK m (xs.length * s.size))
    (hk : Keeps S w (addS S w.heap.size k) (w.alloc (.cells vs ty))) (look' : Look) : ObR B { S := addS S w.heap.size k, M := fun p => if p = site then some (w.heap.size, cap) else M p, Y := Y } (w.alloc (.cells vs ty)) look' site (.arr m ver s xs) := by
  refine ⟨hpos, ?_⟩
  simp only [if_pos]
  refine ⟨hB, vs, ty, heap_new w _, hsz, hle, fun _ => hmx, fun q e => by rw [hfix] at e; simp at e, fun i x hxi => ?_, fun off hs => ?_, fun e off ho => ?_⟩
  · obtain ⟨ws, h1, h2⟩ := hd.get i x hxi
    refine ⟨ws, DR.mono hk h1, fun j v hv => ?_⟩
    have h3 := h2 j v hv
    rw [List.getElem?_take] at h3
    split at h3
    · simpa using h3
    · simp at h3
  · rcases hs with hs | ⟨_, hs⟩
    · have := hslt _ _ hs; omega
    · subst hkk
      cases m with
      | grow => exact ⟨rfl, hs⟩
      | uniq => simp [growK] at hs
      | fixed q => simp [growK] at hs
  · subst e
    exact .inr ⟨rfl, by rw [hkk]; exact ho⟩

theorem DRN.mono {S S' : Cells} {w w' : World} (hk : Keeps S w S' w') {s : Sch} {xs : List s.D} {vs : List Value} (h : DRN S w s xs vs) : DRN S' w' s xs vs := ⟨h.1, fun i x hx => DR.mono hk (h.2 i x hx)⟩

theorem drn_take {S : Cells} {s : Sch} {xs : List s.D} {vs : List Value} (h : DRN S w s xs vs) (r : List Value) : DRN S w s xs ((vs ++ r).take (xs.length * s.size)) := by
  have : (vs ++ r).take (xs.length * s.size) = vs := by rw [← h.1]; exact List.take_left
  rw [this]; exact h

/-! ### build -/
theorem tyv_cells {S : Cells} {t : Ty} {x : t.2.D} {v : Value} (h : TyV S w t x v) : DR S w t.2 x v.cells.toList := by
  obtain ⟨ag, s⟩ := t
  cases ag with
  | true => obtain ⟨vs, rfl, hd⟩ := h; simpa [Value.cells] using hd
  | false =>
    have h1 : DR S w s x [v] := h
    have h2 := DR.leaf h1 v (by simp)
    rw [Leaf.cells h2]
    exact h1

theorem setParts_run (hobj : ∀ o ob, look o = some ob → ObR B G w look o ob) {ag : Bool} {s : Sch} : ∀ {ps : List (Nat × AV)} {pv : List (Nat × Value)} {xs ys : List s.D} {cells : Array Value},
    All2 (fun (p : Nat × AV) (q : Nat × Value) => p.1 = q.1 ∧ VR G w look p.2 q.2) ps pv → DRN G.S w s xs cells.toList → setParts look ag s ps xs = some ys →
    ∃ out : Array Value, Instr.fill (fun i => some (i * s.size, s.size)) cells pv = some out ∧ DRN G.S w s ys out.toList ∧ ys.length = xs.length
  | [], pv, xs, ys, cells, hp, hc, h => by
    cases pv with
    | nil => simp [setParts] at h; subst h; exact ⟨cells, rfl, hc, rfl⟩
    | cons _ _ => exact hp.elim
  | (i, av) :: ps, pv, xs, ys, cells, hp, hc, h => by
    cases pv with
    | nil => exact hp.elim
    | cons q pv =>
      obtain ⟨i', v⟩ := q
      obtain ⟨⟨e1, hv⟩, hp2⟩ := hp
      simp only at e1 hv
      subst e1
      simp only [setParts] at h
      split at h
      · rename_i x hx
        split at h
        · rename_i hi
          have hd := tyv_cells (decTy_rel hobj hv hx)
          have hl := hd.length
          simp only [Array.length_toList] at hl
          have hcl := hc.1
          simp only [Array.length_toList] at hcl
          have hlt : i * s.size + s.size ≤ xs.length * s.size := by
            have : (i + 1) * s.size ≤ xs.length * s.size := Nat.mul_le_mul_right _ hi
            rwa [Nat.add_mul, Nat.one_mul] at this
          rw [fill_step _ cells i v pv rfl hl (by omega)]
          have hset := hc.set (off := 0) (ws := v.cells.toList) hi (by simp; omega) (by
            rw [spliceV_all (by simp; omega)]; exact hd)
          rw [Nat.add_zero] at hset
          obtain ⟨out, h1, h2, h3⟩ := setParts_run hobj (cells := (spliceV cells.toList (i * s.size) v.cells.toList).toArray) hp2 (by simpa using hset) h
          exact ⟨out, h1, h2, by simpa using h3⟩
        · simp at h
      · simp at h

theorem buildSlice_run (h : Rel B w0 S0 G outs σ a w) {t el : TypeId} {len : Nat} {ps : Array (Nat × Operand)} (ho : o.op = .buildSlice t len ps) (hu : P.underlying t = some (.slice el)) {zs : List AV} (hz : zeroCs P el = some zs) {z : (sch P el).D} (hd : (sch P el).dec zs = some (z, []))
    (hel : elOk P el = true) (hpos : 0 < szOf P el) (hlen : len * szOf P el ≤ 16777216) {xs : List (sch P el).D} (hs : setParts (lks σ) (isAggT P el) (sch P el) (ps.toList.map fun p => (p.1, ev σ.tm p.2)) (List.replicate len z) = some xs) :
    ∃ vs : Array Value, xs.length = len ∧ vs.size = len * (sch P el).size ∧ DRN G.S w (sch P el) xs vs.toList ∧ (execOp a.eval o).run P w = .ok (.value (.slice (some ⟨w.heap.size, 0, none⟩) len len)) (w.alloc (.cells vs el)) := by
  obtain ⟨hinf, hsz⟩ := elOk_parts hel
  obtain ⟨i, zv, hi, hiz, hzr, hzd⟩ := zero_dr hz hd
  have hmade := madeCells_drn (hzd G.S w) (by omega) len
  obtain ⟨out, h1, h2, h3⟩ := setParts_run h.obj (map_parts h ps) hmade hs
  have hxl : xs.length = len := by rw [h3]; simp
  refine ⟨out, hxl, by have := h2.1; simpa [hxl] using this, h2, ?_⟩
  have hn1 : ¬ (len * szOf P el > 2 ^ 24) := by omega
  rw [hsz] at h1
  unfold execOp
  simp only [ho, Instr.buildSlice, Sem.run_bind, run_underlying hu w, Result.andThen_ok, size_run hinf w, if_neg hn1, Sem.run_pure, Sem.run_ite]
  by_cases hz0 : len * szOf P el = 0
  · simp only [hz0, if_true, Sem.run_pure, Result.andThen_ok]
    have hme : madeCells zv.cells (len * szOf P el) = (Array.range 0).map (fun j => (#[] : Array Value)[j % (#[] : Array Value).size]!) := by rw [hz0]; simp [madeCells, Array.range_zero']
    rw [hme] at h1
    rw [h1]
    simp [newRow]
  · simp only [if_neg hz0, Sem.run_bind, hzr, Result.andThen_ok, Sem.run_pure]
    rw [show (Array.map (fun x => zv.cells[x % zv.cells.size]!) (Array.range (len * szOf P el))) = madeCells zv.cells (len * szOf P el) from rfl, h1]
    simp [newRow]

theorem op_buildSlice (h : Rel B w0 S0 G outs σ a w) {t el : TypeId} {len : Nat} {ps : Array (Nat × Operand)} (ho : o.op = .buildSlice t len ps) (hu : P.underlying t = some (.slice el)) {zs : List AV} (hz : zeroCs P el = some zs) {z : (sch P el).D} (hd : (sch P el).dec zs = some (z, []))
    (hel : elOk P el = true) (hpos : 0 < szOf P el) (hlen : len * szOf P el ≤ 16777216) {xs : List (sch P el).D} (hs : setParts (lks σ) (isAggT P el) (sch P el) (ps.toList.map fun p => (p.1, ev σ.tm p.2)) (List.replicate len z) = some xs)
    {e : Eff} (he : one (.sl true (sch P el) xs) = some e) : OpOK P B w0 S0 outs σ a w o e := by
  rw [one_eq he]
  obtain ⟨vs, hxl, hvl, hdn, hrun⟩ := buildSlice_run h ho hu hz hd hel hpos hlen hs
  have hle : len ≤ len * szOf P el := Nat.le_mul_of_pos_right _ hpos
  obtain ⟨hR, hV⟩ := h.newFrozen (ty := el) (cap := len) (by have := drn_take hdn []; rwa [List.append_nil] at this) (by omega) (by omega) true (fun _ => hxl.symm)
  rw [hxl] at hV hR
  exact .inl ⟨_, _, _, .inl hrun, hR.put o.dst (av := .sl true (sch P el) xs) hV, rfl⟩

theorem op_buildSliceOwn (h : Rel B w0 S0 G outs σ a w) {t el : TypeId} {len : Nat} {ps : Array (Nat × Operand)} (ho : o.op = .buildSlice t len ps) (hu : P.underlying t = some (.slice el)) {zs : List AV} (hz : zeroCs P el = some zs) {z : (sch P el).D} (hd : (sch P el).dec zs = some (z, []))
    (hel : elOk P el = true) (hpos : 0 < szOf P el) (hlen : len * szOf P el ≤ 16777216) {xs : List (sch P el).D} (hs : setParts (lks σ) (isAggT P el) (sch P el) (ps.toList.map fun p => (p.1, ev σ.tm p.2)) (List.replicate len z) = some xs)
    {site : Nat} (hsite : lk site σ.sto = none) : OpOK P B w0 S0 outs σ a w o ⟨true, true, none, .ref site 0, [(site, .arr .uniq 0 (sch P el) xs)]⟩ := by
  obtain ⟨vs, hxl, hvl, hdn, hrun⟩ := buildSlice_run h ho hu hz hd hel hpos hlen hs
  obtain ⟨hinf, hsz⟩ := elOk_parts hel
  have hle : len ≤ len * szOf P el := Nat.le_mul_of_pos_right _ hpos
  have hR := h.moveOb (site := site) (k := 0) (.arr .uniq 0 (sch P el) xs) vs el len σ.dt (site :: σ.dob) (by rw [hsite]; trivial)
    (fun hk look' => arr_new (k := 0) (m := .uniq) (ver := 0) (xs := xs) (ty := el) h.fresh h.slt (by omega) rfl hvl (by omega) (by omega) (by have := drn_take hdn []; rwa [List.append_nil] at this) rfl hk look')
  refine .inl ⟨_, _, _, .inl hrun, hR.put o.dst (av := .ref site 0) ?_, rfl⟩
  exact ⟨trivial, .uniq, 0, sch P el, xs, by simp [lks, lk_ups], rfl, Nat.le_refl _, fun _ => by simp [RefV, hxl]⟩

theorem op_makeSlice (h : Rel B w0 S0 G outs σ a w) {t el : TypeId} {x y : Operand} (ho : o.op = .makeSlice t x y) (hu : P.underlying t = some (.slice el)) {n c : Int} (hx : ev σ.tm x = .int .i64 n) (hy : ev σ.tm y = .int .i64 c) {zs : List AV} (hz : zeroCs P el = some zs) {z : (sch P el).D} (hd : (sch P el).dec zs = some (z, []))
    (hel : elOk P el = true) (hpos : 0 < szOf P el) (hby : 0 < bytesOfT P el) {site : Nat} (hsite : lk site σ.sto = none) {e : Eff} (hc : e.chk = true)
    (he : some (⟨decide (0 ≤ n) && decide (n = c) && roomOk n.toNat (bytesOfT P el), true, none, .ref site 0, [(site, .arr .uniq 0 (sch P el) (List.replicate n.toNat z))]⟩ : Eff) = some e) : OpOK P B w0 S0 outs σ a w o e := by
  obtain rfl := Option.some.inj he
  simp only [Bool.and_eq_true, decide_eq_true_eq, roomOk] at hc
  obtain ⟨⟨h0, rfl⟩, hroom⟩ := hc
  obtain ⟨hinf, hsz⟩ := elOk_parts hel
  obtain ⟨i, zv, hi, hiz, hzr, hzd⟩ := zero_dr hz hd
  have hbi : bytesOfT P el = i.bytes := by simp [bytesOfT, hi]
  have hsi : szOf P el = i.size := by simp [szOf, hi]
  have hle : n.toNat ≤ n.toNat * bytesOfT P el := Nat.le_mul_of_pos_right _ hby
  have h1 := ev_rel h x; rw [hx] at h1; have h1 := h1.int
  have h2 := ev_rel h y; rw [hy] at h2; have h2 := h2.int
  have hb : (i.bytes : Int) * n ≤ 281474976710656 := by
    have hb2 : ((i.bytes * n.toNat : Nat) : Int) ≤ 281474976710656 := by rw [← hbi, Nat.mul_comm]; omega
    rw [Int.natCast_mul] at hb2
    rwa [show ((n.toNat : Nat) : Int) = n by omega] at hb2
  have hr := run_make (P := P) w t el i zv hu hi hiz .i64 .i64 n n h0 (Int.le_refl _) hb (by omega)
  have hmade := madeCells_drn (hzd G.S w) (show 0 < (sch P el).size by omega) n.toNat
  rw [← hsi, ← hsz] at hr
  have hR := h.moveOb (site := site) (k := 0) (.arr .uniq 0 (sch P el) (List.replicate n.toNat z)) (madeCells zv.cells (n.toNat * (sch P el).size)) el n.toNat σ.dt (site :: σ.dob) (by rw [hsite]; trivial)
    (fun hk look' => arr_new (k := 0) (m := .uniq) (ver := 0) (xs := List.replicate n.toNat z) (ty := el) (s := sch P el) h.fresh h.slt (by omega) rfl (size_madeCells _ _) (by simp) (by omega) (by have := drn_take hmade []; rwa [List.append_nil] at this) rfl hk look')
  refine .inl ⟨.slice (some ⟨w.heap.size, 0, none⟩) n.toNat n.toNat, _, _, .inl ?_, hR.put o.dst (av := .ref site 0) ?_, rfl⟩
  · unfold execOp
    simp only [ho, h1, h2, Sem.run_bind, hr, Result.andThen_ok, Sem.run_pure]
  · exact ⟨trivial, .uniq, 0, sch P el, List.replicate n.toNat z, by simp [lks, lk_ups], rfl, Nat.le_refl _, fun _ => by simp [RefV]⟩

end
end Go.Pi
end

section
namespace Go.Pi
open Go.RowKit
set_option linter.unusedSimpArgs false
set_option linter.unusedVariables false

section
variable {P : Program} {B : Nat → Prop} {w0 : World} {S0 : Cells} {G G' : Gh} {outs : Outs} {σ : St} {a : Act} {w w' : World} {o : Oper} {look : Look}

theorem DRN.nil {S : Cells} {s : Sch} : DRN S w s [] [] := ⟨by simp, fun i x hx => by simp at hx⟩

theorem DRN.cons {S : Cells} {s : Sch} {x : s.D} {xs : List s.D} {ws vs : List Value} (h : DR S w s x ws) (h' : DRN S w s xs vs) : DRN S w s (x :: xs) (ws ++ vs) := by
  have hl := h.length
  refine ⟨by simp [hl, h'.1, Nat.add_mul]; omega, fun i y hy => ?_⟩
  cases i with
  | zero =>
    simp at hy; subst hy
    have : ((ws ++ vs).drop (0 * s.size)).take s.size = ws := by simp [← hl]
    rw [this]; exact h
  | succ i =>
    have h4 := h'.2 i y (by simpa using hy)
    have h5 : (i + 1) * s.size = ws.length + i * s.size := by rw [hl, Nat.add_mul]; omega
    have e3 : (ws ++ vs).drop ((i + 1) * s.size) = vs.drop (i * s.size) := by
      rw [h5, List.drop_append, List.drop_eq_nil_of_le (by omega)]
      simp
    rw [e3]; exact h4

theorem DRN.append {S : Cells} {s : Sch} : ∀ {xs ys : List s.D} {us vs : List Value}, DRN S w s xs us → DRN S w s ys vs → DRN S w s (xs ++ ys) (us ++ vs)
  | [], ys, us, vs, h, h' => by
    have : us = [] := List.eq_nil_of_length_eq_zero (by simpa using h.1)
    subst this
    exact h'
  | x :: xs, ys, us, vs, h, h' => by
    have h1 := h.2 0 x rfl
    simp only [Nat.zero_mul, List.drop_zero] at h1
    have h2 : DRN S w s xs (us.drop s.size) := by
      refine ⟨by rw [List.length_drop, h.1]; simp [Nat.add_mul], fun i y hy => ?_⟩
      have h3 := h.2 (i + 1) y (by simpa using hy)
      rw [List.drop_drop]
      rwa [show s.size + i * s.size = (i + 1) * s.size by rw [Nat.add_mul]; omega]
    have h3 := DRN.cons h1 (DRN.append h2 h')
    rwa [← List.append_assoc, List.take_append_drop] at h3

/-- The cells of a slice's elements. -/
theorem ElR.cells {S : Cells} {s : Sch} {b : Nat} : ∀ {xs : List s.D} {off : Nat}, ElR S w s xs b off → ∃ vs, DRN S w s xs vs ∧ ∀ (j : Nat) (v : Value), vs[j]? = some v → S b (off + j) ∧ w.cell? ⟨b, off + j, none⟩ = some v
  | [], off, h => ⟨[], DRN.nil, fun j v hv => by simp at hv⟩
  | x :: xs, off, h => by
    obtain ⟨ws, hd, hw⟩ := h 0 x rfl
    have h2 : ElR S w s xs b (off + s.size) := by
      intro i y hy
      obtain ⟨ws, hd, hw⟩ := h (i + 1) y (by simpa using hy)
      refine ⟨ws, hd, fun j v hv => ?_⟩
      have := hw j v hv
      rwa [show off + (i + 1) * s.size + j = off + s.size + i * s.size + j by rw [Nat.add_mul]; omega] at this
    obtain ⟨vs, h3, h4⟩ := h2.cells
    refine ⟨ws ++ vs, DRN.cons hd h3, fun j v hv => ?_⟩
    have hl := hd.length
    rcases Nat.lt_or_ge j ws.length with h5 | h5
    · rw [List.getElem?_append_left h5] at hv
      have := hw j v hv
      simpa using this
    · rw [List.getElem?_append_right h5] at hv
      have := h4 (j - ws.length) v hv
      rwa [show off + s.size + (j - ws.length) = off + j by omega] at this

theorem DRN.leaf {S : Cells} {s : Sch} {xs : List s.D} {vs : List Value} (h : DRN S w s xs vs) : ∀ v ∈ vs, Leaf v := by
  have := encL_rel (G := { S := S, M := fun _ => none }) (look := fun _ => none) h
  intro v hv
  obtain ⟨i, hi⟩ := List.getElem?_of_mem hv
  obtain ⟨_, _, hc⟩ := this.get' i v hi
  exact hc.2

theorem one_of_leaf {v : Value} (h : Leaf v) : v.oneCell' = true := by cases v <;> first | rfl | exact h.elim

/-- What is appended. -/
theorem src_of {S : Cells} {s : Sch} {ys : List s.D} {tx e' : TypeId} {v : Value} (hk : P.underlying tx = some (.slice e')) (h : DR S w (.sl s) ys [v]) (hpos : 0 < s.size) :
    ∃ news, Src P s.size tx v ys.length news w ∧ DRN S w s ys news ∧ Builtin.lenOf v = Sem.pure ys.length ∧
      (0 < ys.length → ∃ b off cap, v = .slice (some ⟨b, off, none⟩) ys.length cap ∧ S b off ∧ Room.holdsV w ⟨b, off, none⟩ (ys.length * s.size) = true) := by
  obtain ⟨ad, cap, e1, hc, hmx, he⟩ := h
  simp at e1
  subst e1
  by_cases hp : 0 < ys.length
  · obtain ⟨b, off, rfl, hE⟩ := he hp
    obtain ⟨vs, hd, hv⟩ := ElR.cells hE
    have hvl := hd.1
    have hvp : 0 < vs.length := by rw [hvl]; exact Nat.mul_pos hp hpos
    refine ⟨vs, Src.ofSlice w hk ⟨b, off, none⟩ ys.length cap vs hvl (fun j u hu => by rw [addr_add]; exact (hv j u hu).2) (fun u hu => one_of_leaf (hd.leaf u hu)), hd, rfl, fun _ => ⟨b, off, cap, rfl, (hv 0 _ (List.getElem?_eq_getElem hvp)).1, ?_⟩⟩
    have hlast := (hv (vs.length - 1) _ (List.getElem?_eq_getElem (by omega))).2
    exact holdsV_of_last w b off (ys.length * s.size) (by omega) (by rw [← hvl, hlast]; rfl) _ (Nat.le_refl _)
  · have h0 : ys = [] := List.eq_nil_of_length_eq_zero (by omega)
    subst h0
    refine ⟨[], ?_, DRN.nil, rfl, fun h => by simp at h⟩
    cases ad with
    | none => exact Src.ofNil w hk cap
    | some x => exact Src.ofSlice w hk x 0 cap [] (by simp) (fun j u hu => by simp at hu) (fun u hu => by simp at hu)

/-- In place. -/
theorem append_fit {t tx ty e : TypeId} {i : TypeInfo} (ht : P.underlying t = some (.slice e)) (hi : P.info? e = some i) {g sLen sCap : Nat} {cur : Array Value} {te : TypeId} (hg : w.heap[g]? = some (.cells cur te (0, 0)))
    {x : Value} {n : Nat} {news : List Value} (hs : Src P i.size tx x n news w) (hroom : sLen + n ≤ sCap) (hfit : sLen * i.size + news.length ≤ cur.size) :
    (Builtin.append_ #[t, tx] ty #[.slice (some ⟨g, 0, none⟩) sLen sCap, x]).run P w = .ok (.slice (some ⟨g, 0, none⟩) (sLen + n) sCap) (w.setRow g (spliceV cur.toList (sLen * i.size) news).toArray) := by
  have hst := run_storeCells_at P g (sLen * i.size) te news 0 cur w hg (by simpa using hfit) hs.one
  simp only [Nat.add_zero] at hst
  rcases hs.kind with ⟨e', hk⟩ | hk <;> simp [Builtin.append_, run_underlying ht, run_underlying hk, sizeOf, typeInfo, hi, hs.len, hroom, hs.cells, Addr.add_lit, hst, spliceV]

theorem append_nil0 {t tx ty e : TypeId} {i : TypeInfo} (ht : P.underlying t = some (.slice e)) (hi : P.info? e = some i) {sCap : Nat}
    {x : Value} {news : List Value} (hs : Src P i.size tx x 0 news w) :
    (Builtin.append_ #[t, tx] ty #[.slice none 0 sCap, x]).run P w = .ok (.slice none 0 sCap) w := by
  rcases hs.kind with ⟨e', hk⟩ | hk <;> simp [Builtin.append_, run_underlying ht, run_underlying hk, sizeOf, typeInfo, hi, hs.len, hs.cells]

theorem append_keep {t tx ty e : TypeId} {i : TypeInfo} (ht : P.underlying t = some (.slice e)) (hi : P.info? e = some i) {ad : Option Addr} {n sCap : Nat} (hn : n ≤ sCap)
    {x : Value} {news : List Value} (hs : Src P i.size tx x 0 news w) :
    (Builtin.append_ #[t, tx] ty #[.slice ad n sCap, x]).run P w = .ok (.slice ad n sCap) w := by
  have hnl := hs.newsLen
  have : news = [] := List.eq_nil_of_length_eq_zero (by simpa using hnl)
  subst this
  rcases hs.kind with ⟨e', hk⟩ | hk <;> cases ad <;> simp [Builtin.append_, run_underlying ht, run_underlying hk, sizeOf, typeInfo, hi, hs.len, hs.cells, hn, storeCells]

end
end Go.Pi
end

section
namespace Go.Pi
open Go.RowKit
set_option linter.unusedSimpArgs false
set_option linter.unusedVariables false

section
variable {P : Program} {B : Nat → Prop} {w0 : World} {S0 : Cells} {G G' : Gh} {outs : Outs} {σ : St} {a : Act} {w w' : World} {o : Oper} {look : Look}

/-- What an append knows. -/
structure AppIn (P : Program) (S : Cells) (w : World) (t tx el : TypeId) (i : TypeInfo) (zv : Value) (ys : List (sch P el).D) (xv : Value) (news : List Value) : Prop where
  ht : P.underlying t = some (.slice el)
  htx : ∃ e', P.underlying tx = some (.slice e')
  hi : P.info? el = some i
  hz : i.zero = some zv
  sz : (sch P el).size = i.size
  zsz : zv.cells.size = i.size
  pos : 0 < i.size
  by0 : 0 < i.bytes
  src : Src P i.size tx xv ys.length news w
  drn : DRN S w (sch P el) ys news
  lenx : Builtin.lenOf xv = Sem.pure ys.length
  holds : 0 < ys.length → ∃ b off cap, xv = .slice (some ⟨b, off, none⟩) ys.length cap ∧ S b off ∧ Room.holdsV w ⟨b, off, none⟩ (ys.length * i.size) = true

theorem appIn (h : Rel B w0 S0 G outs σ a w) {t tx el e' : TypeId} {y : Operand} (ht : P.underlying t = some (.slice el)) (htx : P.underlying tx = some (.slice e')) (hel : elOk P el = true) (hpos : 0 < szOf P el) (hby : 0 < bytesOfT P el)
    (hz : (zeroCs P el).map (·.length) = some (szOf P el)) {ys : List (sch P el).D} (hy : asSl (lks σ) (sch P el) (ev σ.tm y) = some ys) : ∃ i zv news, bytesOfT P el = i.bytes ∧ AppIn P G.S w t tx el i zv ys (a.eval y) news := by
  obtain ⟨hinf, hsz⟩ := elOk_parts hel
  have hd : DR G.S w (.sl (sch P el)) ys [a.eval y] := decTy_rel h.obj (ev_rel h y) hy
  cases hzs : zeroCs P el with
  | none => simp [hzs] at hz
  | some zs =>
    simp [hzs] at hz
    obtain ⟨zv, hzr, hza⟩ := zero_run hzs
    have hrun := hzr w
    unfold zeroCs at hzs
    cases hi : P.info? el with
    | none => simp [hi] at hzs
    | some i =>
      have hs : szOf P el = i.size := by simp [szOf, hi]
      have hb : bytesOfT P el = i.bytes := by simp [bytesOfT, hi]
      cases hzz : i.zero with
      | none => simp [hi, hzz] at hzs
      | some z' =>
        simp [zeroValue, typeInfo, hi, hzz] at hrun
        subst hrun
        obtain ⟨news, h1, h2, h3, h4⟩ := src_of (P := P) htx hd (by omega)
        rw [hsz, hs] at h1 h4
        have hl := (hza G w (lks σ)).length
        exact ⟨i, z', news, hb, ht, ⟨e', htx⟩, hi, hzz, hsz.trans hs, by simp at hl; omega, by omega, by omega, h1, h2, h3, h4⟩

theorem DRN.drew {S : Cells} {s : Sch} {xs : List s.D} {vs : List Value} (h : DRN S w s xs vs) : DRN S w.drew s xs vs := DRN.mono (w := w) (w' := w.drew) (fun b o hs => ⟨hs, rfl⟩) h

/-- A new block. -/
theorem app_grow {S : Cells} {t tx el ty : TypeId} {i : TypeInfo} {zv : Value} {ys : List (sch P el).D} {xv : Value} {news : List Value} (A : AppIn P S w t tx el i zv ys xv news) {base : Option Addr} {cap : Nat} {xs : List (sch P el).D} {olds : List Value} (ho : DRN S w (sch P el) xs olds)
    (hold : (Builtin.firstCells i.size xs.length (.slice base xs.length cap)).run P w.drew = .ok olds.toArray w.drew) (hlt : cap < xs.length + ys.length) (hfit : Builtin.nextslicecap (xs.length + ys.length) cap * i.bytes ≤ 281474976710656) :
    ∃ (vs : Array Value) (nc : Nat), (Builtin.append_ #[t, tx] ty #[.slice base xs.length cap, xv]).run P w = .ok (.slice (some ⟨w.heap.size, 0, none⟩) (xs.length + ys.length) nc) (w.drew.alloc (.cells vs el)) ∧ vs.size = nc * (sch P el).size ∧
      (xs ++ ys).length ≤ nc ∧ nc ≤ 9223372036854775807 ∧ DRN S w.drew (sch P el) (xs ++ ys) (vs.toList.take ((xs ++ ys).length * (sch P el).size)) ∧ lenOk (xs.length + ys.length) = true := by
  have hnb : (xs.length + ys.length) * i.bytes ≤ 281474976710656 := Nat.le_trans (Nat.mul_le_mul_right _ (le_nextslicecap hlt)) hfit
  have hneed : xs.length + ys.length ≤ (xs.length + ys.length) * i.bytes := Nat.le_mul_of_pos_right _ A.by0
  have hr := run_append_grow_src (P := P) w t tx ty el i zv A.ht A.hi A.hz base xs.length cap olds hold xv ys.length news A.src hlt (by omega) hfit
  have hge := grownCap_ge w (xs.length + ys.length) cap el
  have hcm := grownCap_le_maxLen w (xs.length + ys.length) cap el (by simp only [maxLen]; omega)
  have hdn := (ho.append A.drn).drew
  refine ⟨_, _, hr, ?_, by simpa using hge, by simp only [maxLen] at hcm; omega, ?_, by simp [lenOk]; omega⟩
  · have h1 := hdn.1
    simp only [Array.size_append, List.size_toArray, size_zeroCells, A.zsz, h1, List.length_append, A.sz, ← Nat.add_mul]
    congr 1
    omega
  · have := drn_take hdn (Builtin.zeroCells zv.cells (grownCap w (xs.length + ys.length) cap el - (xs.length + ys.length))).toList
    simpa using this

/-- No memory bears it. -/
theorem app_ask {S : Cells} {t tx el : TypeId} {i : TypeInfo} {zv : Value} {ys : List (sch P el).D} {news : List Value} {x y : Operand} (A : AppIn P S w t tx el i zv ys (a.eval y) news) (ho : o.op = .call { callee := .builtin .append, args := #[x, y], argTypes := #[t, tx] })
    {base : Option Addr} {n cap : Nat} (hx : a.eval x = .slice base n cap) (hlt : cap < n + ys.length) (hnc : n ≤ cap) (hbig : ¬ Builtin.nextslicecap (n + ys.length) cap * i.bytes ≤ 281474976710656)
    (hb : base = none ∧ n = 0 ∨ ∃ g cur te, base = some ⟨g, 0, none⟩ ∧ w.heap[g]? = some (.cells cur te (0, 0)) ∧ cur.size = cap * i.size ∧ ∀ off, ¬ S g off) : o.asks P a w := by
  obtain ⟨b, off, c, hxv, hS, hh⟩ := A.holds (by omega)
  have hm : (Builtin.mayShare i.size n ys.length base (a.eval y)).runT P w #[] = (.ok false w, #[]) := by
    rw [hxv]
    rcases hb with ⟨rfl, rfl⟩ | ⟨g, cur, te, rfl, hg, hcs, hno⟩
    · exact runT_mayShare_nil_cells w i.size ys.length _ c hh
    · exact runT_mayShare_own_cells w i.size n ys.length g cap cur te hg hnc hcs _ c (fun e => by simp only at e; subst e; exact hno _ hS) hh
  obtain ⟨e', htx⟩ := A.htx
  have hr := runT_append_beyond_any (P := P) w t tx o.type el i (.slice e') A.ht A.hi htx (by simp) base n cap ys.length (a.eval y) A.lenx hlt (by omega) hm
  refine asks_append_any w x y t tx ho (by rw [hx, hr]; simp) ?_
  rw [hx, ← Sem.runT_fst P _ w #[], hr]
  exact fun _ => ⟨by simp, by simp, fun _ => by simp⟩

theorem app_done {t tx : TypeId} {x y : Operand} {v : Value} {wv : World} (ho : o.op = .call { callee := .builtin .append, args := #[x, y], argTypes := #[t, tx] }) {xv : Value} (hx : a.eval x = xv)
    (hr : (Builtin.append_ #[t, tx] o.type #[xv, a.eval y]).run P w = .ok v wv) : Done P o a w v wv := by
  refine .inl ?_
  unfold execOp
  simp [ho, resolve, invoke, builtin, hx, hr]

/-- An object that lies in no block. -/
theorem Rel.noBlock (h : Rel B w0 S0 G outs σ a w) {site : Nat} {s : Sch} {m : Mode} {ver : Nat} (hpos : 0 < s.size) (hm : m.fix = none) (dt' dob' : List Nat)
    (hT : ∀ M', M' site = none → Turn G { G with M := M' } site (.arr m ver s []) (lk site σ.sto)) :
    Rel B w0 S0 { G with M := fun p => if p = site then none else G.M p } outs { σ with sto := ups site (.arr m ver s []) σ.sto, dt := dt', dob := dob' } a w := by
  refine h.upd1 (G' := { G with M := fun p => if p = site then none else G.M p }) rfl site _ dt' dob' (Keeps.refl _ _) (fun p ob e _ => by simp [e]) (fun p ob b c _ _ _ => ⟨rfl, fun _ h => h⟩) (hT _ (by simp)) ⟨hpos, by simp [ArrR, hm]⟩
    (fun p ob b c c' _ _ _ hb => by simp at hb) h.below h.bsz (fun _ _ h => .inl h) h.slt

theorem refV_ref {G : Gh} {look : Look} {ob ver n : Nat} {m : Mode} {s : Sch} {xs : List s.D} {v : Value} (hl : Leaf v) (hlk : look ob = some (.arr m ver s xs)) (hm : m.fix = none) (hn : xs.length = n) (hr : RefV (G.M ob) n v) : VR G w look (.ref ob ver) v :=
  ⟨hl, m, ver, s, xs, hlk, hm, Nat.le_refl _, fun _ => hn ▸ hr⟩

theorem op_append_nil (h : Rel B w0 S0 G outs σ a w) {t tx el e' : TypeId} {x y : Operand} (ho : o.op = .call { callee := .builtin .append, args := #[x, y], argTypes := #[t, tx] }) (ht : P.underlying t = some (.slice el)) (htx : P.underlying tx = some (.slice e')) (hel : elOk P el = true) (hpos : 0 < szOf P el) (hby : 0 < bytesOfT P el)
    (hz : (zeroCs P el).map (·.length) = some (szOf P el)) {ys : List (sch P el).D} (hy : asSl (lks σ) (sch P el) (ev σ.tm y) = some ys) (hx : ev σ.tm x = .nils) {site : Nat} (hsite : lk site σ.sto = none) {c : Bool} (hc : roomOk ys.length (bytesOfT P el) = true) :
    OpOK P B w0 S0 outs σ a w o ⟨c, true, none, .ref site 0, [(site, .arr .uniq 0 (sch P el) ys)]⟩ := by
  have hxv : a.eval x = .slice none 0 0 := by have := ev_rel h x; rw [hx] at this; exact this
  obtain ⟨i, zv, news, hb, A⟩ := appIn h ht htx hel hpos hby hz hy
  by_cases hm : ys.length = 0
  · have hy0 : ys = [] := List.eq_nil_of_length_eq_zero hm
    subst hy0
    have hR := h.noBlock (site := site) (s := sch P el) (m := .uniq) (ver := 0) (by have := A.sz; have := A.pos; omega) rfl σ.dt (site :: σ.dob) (fun M' _ => by rw [hsite]; trivial)
    refine .inl ⟨.slice none 0 0, w, _, app_done ho hxv (append_nil0 (ty := o.type) A.ht A.hi A.src), hR.put o.dst (av := .ref site 0) ?_, rfl⟩
    exact refV_ref (n := 0) (xs := ([] : List (sch P el).D)) (s := sch P el) (m := .uniq) trivial (by simp [lks, lk_ups]) rfl rfl (by simp [RefV])
  · by_cases hp : Builtin.nextslicecap (0 + ys.length) 0 * i.bytes ≤ 281474976710656
    · obtain ⟨vs, nc, hr, hvs, hle, hmx, hdn, hok⟩ := app_grow (ty := o.type) A (base := none) (cap := 0) (xs := []) (olds := []) DRN.nil (by simpa using run_firstCells_none (P := P) w.drew i.size 0 0 0) (by simp; omega) (by simpa using hp)
      simp only [List.nil_append, List.length_nil, Nat.zero_add] at hr hle hdn hok
      have hR := h.drew.moveOb (site := site) (k := 0) (.arr .uniq 0 (sch P el) ys) vs el nc σ.dt (site :: σ.dob) (by rw [hsite]; trivial)
        (fun hk look' => arr_new (w := w.drew) (k := 0) (m := .uniq) h.fresh h.slt (by have := A.sz; have := A.pos; omega) rfl hvs hle hmx hdn rfl hk look')
      refine .inl ⟨_, _, _, app_done ho hxv hr, hR.put o.dst (av := .ref site 0) ?_, rfl⟩
      exact refV_ref (n := ys.length) (xs := ys) (s := sch P el) (m := .uniq) trivial (by simp [lks, lk_ups]) rfl rfl (by simp [RefV])
    · exact (hp (by
        simp [roomOk, hb] at hc
        exact growslice_fits (by omega) (by simpa using hc))).elim

/-- Onto what is under construction. -/
theorem op_append_ref (h : Rel B w0 S0 G outs σ a w) {t tx el e' : TypeId} {x y : Operand} (ho : o.op = .call { callee := .builtin .append, args := #[x, y], argTypes := #[t, tx] }) (ht : P.underlying t = some (.slice el)) (htx : P.underlying tx = some (.slice e')) (hel : elOk P el = true) (hpos : 0 < szOf P el) (hby : 0 < bytesOfT P el)
    (hz : (zeroCs P el).map (·.length) = some (szOf P el)) {ys : List (sch P el).D} (hy : asSl (lks σ) (sch P el) (ev σ.tm y) = some ys) {ob ver : Nat} (hx : ev σ.tm x = .ref ob ver) {m : Mode} {xs : List (sch P el).D} (hob : lk ob σ.sto = some (.arr m ver (sch P el) xs)) (hmf : m.fix = none)
    {c : Bool} (hcr : roomOk (xs.length + ys.length) (bytesOfT P el) = true) :
    OpOK P B w0 S0 outs σ a w o ⟨c, true, none, .ref ob (ver + 1), [(ob, .arr m (ver + 1) (sch P el) (xs ++ ys))]⟩ := by
  have hxr := ev_rel h x
  rw [hx] at hxr
  obtain ⟨hleaf, m', ver', s', xs', hob', hmf', hle', hrv⟩ := hxr
  have hob2 : lk ob σ.sto = some (.arr m' ver' s' xs') := hob'
  rw [hob] at hob2
  simp only [Option.some.injEq, Ob.arr.injEq] at hob2
  obtain ⟨rfl, rfl, rfl, e2⟩ := hob2
  have e3 := eq_of_heq e2
  subst e3
  have hrv := hrv rfl
  obtain ⟨i, zv, news, hb, A⟩ := appIn h ht htx hel hpos hby hz hy
  have hps : 0 < (sch P el).size := by have := A.sz; have := A.pos; omega
  have hO := (h.obj ob _ hob).2
  have hturn : ∀ (M' : Nat → Option (Nat × Nat)) (S' : Cells) (zs : List (sch P el).D), Turn G { S := S', M := M', Y := G.Y } ob (.arr m (ver + 1) (sch P el) zs) (lk ob σ.sto) := fun M' S' zs => by
    rw [hob]
    exact ⟨m, ver + 1, zs, rfl, rfl, by omega, fun e => (e hmf).elim, fun e => by omega⟩
  -- a new block
  have grown : ∀ (base : Option Addr) (cap : Nat) (olds : List Value), a.eval x = .slice base xs.length cap → DRN G.S w (sch P el) xs olds → (Builtin.firstCells i.size xs.length (.slice base xs.length cap)).run P w.drew = .ok olds.toArray w.drew →
      cap < xs.length + ys.length → Builtin.nextslicecap (xs.length + ys.length) cap * i.bytes ≤ 281474976710656 → OpOK P B w0 S0 outs σ a w o ⟨c, true, none, .ref ob (ver + 1), [(ob, .arr m (ver + 1) (sch P el) (xs ++ ys))]⟩ := by
    intro base cap olds hxv hdo hfc hlt hfit
    obtain ⟨vs, nc, hr, hvs, hle, hmx, hdn, hok⟩ := app_grow (ty := o.type) A hdo hfc hlt hfit
    have hR := h.drew.moveOb (site := ob) (k := growK m ((xs ++ ys).length * (sch P el).size)) (.arr m (ver + 1) (sch P el) (xs ++ ys)) vs el nc σ.dt (ob :: σ.dob) (hturn _ _ _)
      (fun hk look' => arr_new (w := w.drew) (m := m) h.fresh h.slt hps hmf hvs hle hmx hdn rfl hk look')
    refine .inl ⟨_, _, _, app_done ho hxv hr, hR.put o.dst (av := .ref ob (ver + 1)) ?_, rfl⟩
    exact refV_ref (n := xs.length + ys.length) (xs := xs ++ ys) (s := sch P el) (m := m) trivial (by simp [lks, lk_ups]) hmf (by simp) (by simp [RefV])
  cases hM : G.M ob with
  | none =>
    rw [hM] at hrv hO
    obtain ⟨hxs, _⟩ := hO
    subst hxs
    obtain ⟨_, hxv⟩ := hrv
    by_cases hm : ys.length = 0
    · have hy0 : ys = [] := List.eq_nil_of_length_eq_zero hm
      subst hy0
      have hR := h.noBlock (site := ob) (s := sch P el) (m := m) (ver := ver + 1) hps hmf σ.dt (ob :: σ.dob) (fun M' _ => hturn _ _ _)
      refine .inl ⟨.slice none 0 0, w, _, app_done ho hxv (append_nil0 (ty := o.type) A.ht A.hi A.src), hR.put o.dst (av := .ref ob (ver + 1)) ?_, rfl⟩
      exact refV_ref (n := 0) (xs := ([] : List (sch P el).D)) (s := sch P el) (m := m) trivial (by simp [lks, lk_ups]) hmf rfl (by simp [RefV])
    · by_cases hp : Builtin.nextslicecap (0 + ys.length) 0 * i.bytes ≤ 281474976710656
      · exact grown none 0 [] hxv DRN.nil (by simpa using run_firstCells_none (P := P) w.drew i.size 0 0 0) (by simp; omega) (by simpa using hp)
      · exfalso
        apply hp
        simp [roomOk, hb] at hcr
        exact growslice_fits (by omega) (by simpa using hcr)
  | some q =>
    obtain ⟨b, cap⟩ := q
    rw [hM] at hrv hO
    simp only [RefV] at hrv
    obtain ⟨hB, cur, ty, hh, hsz, hle, hmx, hfx, hel', hS, hS2⟩ := hO
    have hmx := hmx hmf
    obtain ⟨cur', ty', hh', _, _, hdn⟩ := ArrR.drn (show ArrR G.S w B (some (b, cap)) m (sch P el) xs from ⟨hB, cur, ty, hh, hsz, hle, fun _ => hmx, hfx, hel', hS, hS2⟩)
    rw [hh] at hh'
    simp at hh'
    obtain ⟨rfl, rfl⟩ := hh'
    have hcell : ∀ j u, (cur.toList.take (xs.length * (sch P el).size))[j]? = some u → w.cell? (Addr.add ⟨b, 0, none⟩ j) = some u := fun j u hu => by
      rw [addr_add, Nat.zero_add, cell_of_block hh]
      rw [List.getElem?_take] at hu
      split at hu
      · simpa using hu
      · simp at hu
    by_cases hroom : xs.length + ys.length ≤ cap
    · have hnl := A.drn.1
      have hfit : xs.length * i.size + news.length ≤ cur.size := by
        rw [hnl, hsz, A.sz, ← Nat.add_mul]
        exact Nat.mul_le_mul_right _ hroom
      have hr := append_fit (ty := o.type) A.ht A.hi hh A.src hroom hfit
      have hfit' : xs.length * i.size + news.length ≤ cur.toList.length := by simpa using hfit
      -- the marks of the block
      have hkeep : ∀ k, Keeps G.S w (addS G.S b k) (w.setRow b (spliceV cur.toList (xs.length * i.size) news).toArray) := fun k b' o' hs => ⟨.inl hs, by
        by_cases e : b' = b
        · subst e
          have h2 := (hS o' hs).2
          rw [cell_of_block (setRow_heap w b' cur _ ty _ hh), cell_of_block hh]
          simp only [List.getElem?_toArray]
          rw [spliceV_get _ _ _ hfit', if_neg (by rw [A.sz] at h2; omega)]
          simp
        · exact cell_setRow_other w b _ _ (fun e' => e e')⟩
      have hk := hkeep (growK m ((xs ++ ys).length * (sch P el).size))
      have hnone : ∀ off, (b : Nat) = b → addS G.S b (growK m ((xs ++ ys).length * (sch P el).size)) b off → m = .grow ∧ off < (xs ++ ys).length * (sch P el).size := fun off _ hs => by
        rcases hs with hs | ⟨_, hs⟩
        · obtain ⟨h1, h2⟩ := hS off hs
          refine ⟨h1, Nat.lt_of_lt_of_le h2 (Nat.mul_le_mul_right _ (by simp))⟩
        · cases m with
          | grow => exact ⟨rfl, hs⟩
          | uniq => simp [growK] at hs
          | fixed q => simp [growK] at hs
      have hdnew : DRN G.S w (sch P el) (xs ++ ys) (cur.toList.take (xs.length * (sch P el).size) ++ news) := hdn.append A.drn
      have hR : Rel B w0 S0 { G with S := addS G.S b (growK m ((xs ++ ys).length * (sch P el).size)) } outs { σ with sto := ups ob (.arr m (ver + 1) (sch P el) (xs ++ ys)) σ.sto, dt := σ.dt, dob := ob :: σ.dob } a (w.setRow b (spliceV cur.toList (xs.length * i.size) news).toArray) := by
        refine h.upd1 (G' := { G with S := addS G.S b (growK m ((xs ++ ys).length * (sch P el).size)) }) rfl ob _ σ.dt (ob :: σ.dob) hk (fun _ _ _ _ => rfl) (fun p ob' b' c' e hp hb' => ?_) (hturn _ _ _) ⟨hps, ?_⟩ (fun p ob' b' c' c3 e hp hb' hb3 => e (h.inj p ob _ _ b' c' c3 hp hob hb' hb3))
          (bel_setRow h.below hB _) (by simpa using h.bsz) (fun b' o' hs => ?_) (fun b' o' hs => ?_)
        · have hne : b' ≠ b := fun e' => e (h.inj p ob _ _ b' c' cap hp hob hb' (e' ▸ hM))
          refine ⟨setRow_other w b b' _ hne, fun off hs => ?_⟩
          rcases hs with hs | ⟨e', _⟩
          · exact hs
          · exact (hne e').elim
        · simp only [hM]
          refine ⟨hB, _, ty, setRow_heap w b cur _ ty _ hh, ?_, by simpa using hroom, fun _ => hmx, fun q e => by rw [hmf] at e; simp at e, fun j z hj => ?_, fun off hs => hnone off rfl hs, fun e off ho' => ?_⟩
          · simp only [List.size_toArray, spliceV_length hfit']
            simpa using hsz
          · obtain ⟨us, hd1, hd2⟩ := hdnew.get j z hj
            refine ⟨us, DR.mono hk hd1, fun q u hu => ?_⟩
            have h5 := hd2 q u hu
            simp only [List.getElem?_toArray]
            rw [spliceV_get _ _ _ hfit']
            have hxl : (cur.toList.take (xs.length * (sch P el).size)).length = xs.length * i.size := by rw [hdn.1, A.sz]
            by_cases h6 : j * (sch P el).size + q < xs.length * i.size
            · rw [List.getElem?_append_left (by omega), List.getElem?_take] at h5
              rw [if_neg (by omega)]
              split at h5
              · exact h5
              · simp at h5
            · rw [List.getElem?_append_right (by omega), hxl] at h5
              have h7 : j * (sch P el).size + q - xs.length * i.size < news.length := by
                rcases Nat.lt_or_ge (j * (sch P el).size + q - xs.length * i.size) news.length with h8 | h8
                · exact h8
                · rw [List.getElem?_eq_none h8] at h5; simp at h5
              rw [if_pos (by omega)]
              exact h5
          · subst e
            exact .inr ⟨rfl, ho'⟩
        · rcases hs with hs | ⟨e, _⟩
          · exact .inl hs
          · exact .inr (e ▸ hB)
        · rcases hs with hs | ⟨e, _⟩
          · simpa using h.slt b' o' hs
          · subst e
            simpa using (Array.getElem?_eq_some_iff.1 hh).1
      refine .inl ⟨_, _, _, app_done ho hrv hr, hR.put o.dst (av := .ref ob (ver + 1)) ?_, rfl⟩
      exact refV_ref (n := xs.length + ys.length) (xs := xs ++ ys) (s := sch P el) (m := m) trivial (by simp [lks, lk_ups]) hmf (by simp) (by simp [RefV, hM])
    · have hfc := run_firstCells_some (P := P) w.drew i.size xs.length ⟨b, 0, none⟩ xs.length cap (cur.toList.take (xs.length * (sch P el).size)) (by rw [hdn.1, A.sz]) (by simpa using hcell)
      by_cases hp : Builtin.nextslicecap (xs.length + ys.length) cap * i.bytes ≤ 281474976710656
      · exact grown _ cap _ hrv hdn hfc (by omega) hp
      · exfalso
        apply hp
        simp [roomOk, hb] at hcr
        exact growslice_fits (by omega) hcr

/-- Onto a slice with no room. -/
theorem op_append_exact (h : Rel B w0 S0 G outs σ a w) {t tx el e' : TypeId} {x y : Operand} (ho : o.op = .call { callee := .builtin .append, args := #[x, y], argTypes := #[t, tx] }) (ht : P.underlying t = some (.slice el)) (htx : P.underlying tx = some (.slice e')) (hel : elOk P el = true) (hpos : 0 < szOf P el) (hby : 0 < bytesOfT P el)
    (hz : (zeroCs P el).map (·.length) = some (szOf P el)) {ys : List (sch P el).D} (hy : asSl (lks σ) (sch P el) (ev σ.tm y) = some ys) {xs : List (sch P el).D} (hx : ev σ.tm x = .sl true (sch P el) xs) {c : Bool} (hc : roomOk (xs.length + ys.length) (bytesOfT P el) = true) :
    OpOK P B w0 S0 outs σ a w o ⟨c, true, none, .sl false (sch P el) (xs ++ ys), []⟩ := by
  have hxr := ev_rel h x
  rw [hx] at hxr
  obtain ⟨hdx, hex⟩ := hxr
  obtain ⟨ad, hxv⟩ := hex rfl
  obtain ⟨i, zv, news, hb, A⟩ := appIn h ht htx hel hpos hby hz hy
  have hps : 0 < (sch P el).size := by have := A.sz; have := A.pos; omega
  by_cases hm : ys.length = 0
  · have hy0 : ys = [] := List.eq_nil_of_length_eq_zero hm
    subst hy0
    rw [List.append_nil]
    exact .inl ⟨_, w, G, app_done ho hxv (append_keep (ty := o.type) A.ht A.hi (Nat.le_refl _) A.src), h.put o.dst (av := .sl false (sch P el) xs) ⟨by rw [← hxv]; exact hdx, fun e => by simp at e⟩, rfl⟩
  · have hread : ∃ olds, DRN G.S w (sch P el) xs olds ∧ (Builtin.firstCells i.size xs.length (.slice ad xs.length xs.length)).run P w.drew = .ok olds.toArray w.drew := by
      obtain ⟨news', h1, h2, _, _⟩ := src_of (P := P) (tx := t) A.ht hdx hps
      rw [hxv] at h1
      rw [A.sz] at h1
      exact ⟨news', h2, h1.cellsD⟩
    obtain ⟨olds, hdo, hfc⟩ := hread
    simp [roomOk, hb] at hc
    obtain ⟨vs, nc, hr, hvs, hle, hmx, hdn, hok⟩ := app_grow (ty := o.type) A hdo hfc (by omega) (growslice_fits (by omega) hc)
    obtain ⟨hR, hV⟩ := h.drew.newFrozen (ty := el) hdn hle hmx false (fun e => by simp at e)
    refine .inl ⟨_, _, _, app_done ho hxv hr, hR.put o.dst (av := .sl false (sch P el) (xs ++ ys)) ?_, rfl⟩
    simpa using hV

end
end Go.Pi
end

section
namespace Go.Pi
open Go.RowKit
set_option linter.unusedSimpArgs false
set_option linter.unusedVariables false

section
variable {P : Program} {B : Nat → Prop} {w0 : World} {S0 : Cells} {G G' : Gh} {outs : Outs} {σ : St} {a : Act} {w w' : World} {o : Oper} {look : Look}

/-- Only what is looked up counts. -/
theorem Rel.congr {σ' : St} (h : Rel B w0 S0 G outs σ a w) (htm : σ'.tm = σ.tm) (hout : σ'.outs = σ.outs) (hlk : ∀ p, lk p σ'.sto = lk p σ.sto) : Rel B w0 S0 G outs σ' a w := by
  have hf : (fun o => lk o σ'.sto) = fun o => lk o σ.sto := funext hlk
  refine ⟨h.below, h.bsz, h.s0, h.snew, h.slt, by rw [htm]; exact h.tml, ?_, ?_, ?_, ?_, h.yeq⟩
  · rw [htm, hf]; exact h.tm
  · rw [hout, hf]; exact h.outl
  · rw [hf]; intro o ob ho; exact h.obj o ob (by rw [← hlk]; exact ho)
  · intro o o' ob ob' b c c' h1 h2; exact h.inj o o' ob ob' b c c' (by rw [← hlk]; exact h1) (by rw [← hlk]; exact h2)

theorem Ext.trans {G'' : Gh} {w'' : World} {look' look'' : Look} (h : Ext G w look G' w' look') (k : Ext G' w' look' G'' w'' look'') : Ext G w look G'' w'' look'' := by
  refine ⟨h.keeps.trans k.keeps, fun o fz cs ho => ?_, fun o m ver s xs ho => ?_, k.yl.trans h.yl⟩
  · obtain ⟨h1, fz', cs', h2⟩ := h.cells o fz cs ho
    obtain ⟨h3, r⟩ := k.cells o fz' cs' h2
    exact ⟨h3.trans h1, r⟩
  · obtain ⟨m', ver', xs', h1, h2, h3, h4, h5⟩ := h.arr o m ver s xs ho
    obtain ⟨m'', ver'', xs'', k1, k2, k3, k4, k5⟩ := k.arr o m' ver' s xs' h1
    refine ⟨m'', ver'', xs'', k1, k2.trans h2, Nat.le_trans h3 k3, fun e => (k4 (by rw [h2]; exact e)).trans (h4 e), fun e => ?_⟩
    have e1 : ver' = ver := by omega
    have e2 : ver'' = ver' := by omega
    exact ⟨(k5 e2).1.trans (h5 e1).1, (k5 e2).2.trans (h5 e1).2⟩

theorem Rel.frz1 (h : Rel B w0 S0 G outs σ a w) (o : Nat) : ∃ G', Rel B w0 S0 G' outs (frz1 o σ) a w ∧ Ext G w (lks σ) G' w (lks (Pi.frz1 o σ)) := by
  unfold Pi.frz1
  cases hob : lk o σ.sto with
  | none => exact ⟨G, h, Ext.refl _ _ _⟩
  | some ob =>
    cases ob with
    | cells fz cs => exact ⟨G, h, Ext.refl _ _ _⟩
    | arr m ver s xs =>
      cases m with
      | fixed k => exact ⟨G, h, Ext.refl _ _ _⟩
      | grow => exact ⟨G, h, Ext.refl _ _ _⟩
      | uniq =>
        simp only
        obtain ⟨hpos, hA⟩ := h.obj o _ hob
        cases hM : G.M o with
        | none =>
          rw [hM] at hA
          have hT : Turn G G o (.arr .grow ver s xs) (lk o σ.sto) := by
            rw [hob]
            exact ⟨.grow, ver, xs, rfl, rfl, Nat.le_refl _, fun _ => rfl, fun _ => ⟨rfl, rfl⟩⟩
          refine ⟨G, h.upd1 (G' := G) rfl o _ σ.dt (o :: σ.dob) (Keeps.refl _ _) (fun _ _ _ _ => rfl) (fun _ _ _ _ _ _ _ => ⟨rfl, fun _ h => h⟩) hT ⟨hpos, by rw [hM]; exact ⟨hA.1, rfl⟩⟩ (fun p ob b c c' e hp hb hb' => by rw [hM] at hb'; simp at hb') h.below h.bsz (fun _ _ h => .inl h) h.slt, Ext.upd1 rfl (Keeps.refl _ _) (fun _ _ _ _ => rfl) hT⟩
        | some q =>
          obtain ⟨b, cap⟩ := q
          rw [hM] at hA
          obtain ⟨hB, vs, ty, hh, hsz, hle, hmx, hfx, he, hS, hS2⟩ := hA
          have hno : ∀ off, ¬ G.S b off := fun off hs => by have := (hS off hs).1; simp at this
          have hk : Keeps G.S w (addS G.S b (xs.length * s.size)) w := fun b' o' hs => ⟨.inl hs, rfl⟩
          have hT : Turn G { G with S := addS G.S b (xs.length * s.size) } o (.arr .grow ver s xs) (lk o σ.sto) := by
            rw [hob]
            exact ⟨.grow, ver, xs, rfl, rfl, Nat.le_refl _, fun _ => rfl, fun _ => ⟨rfl, rfl⟩⟩
          refine ⟨{ G with S := addS G.S b (xs.length * s.size) }, h.upd1 (G' := { G with S := addS G.S b (xs.length * s.size) }) rfl o _ σ.dt (o :: σ.dob) hk (fun _ _ _ _ => rfl) (fun p ob' b' c' e hp hb' => ⟨rfl, fun off hs => ?_⟩) hT ⟨hpos, ?_⟩
            (fun p ob' b' c' c3 e hp hb' hb3 => e (h.inj p o _ _ b' c' c3 hp hob hb' hb3)) h.below h.bsz (fun b' o' hs => ?_) (fun b' o' hs => ?_), Ext.upd1 rfl hk (fun _ _ _ _ => rfl) hT⟩
          · rcases hs with hs | ⟨e', _⟩
            · exact hs
            · subst e'
              exact (e (h.inj p o _ _ b' c' cap hp hob hb' hM)).elim
          · simp only [hM]
            refine ⟨hB, vs, ty, hh, hsz, hle, fun _ => hmx rfl, fun k e => by simp [Mode.fix] at e, fun i x hx => ?_, fun off hs => ?_, fun _ off ho => .inr ⟨rfl, ho⟩⟩
            · obtain ⟨ws, h1, h2⟩ := he i x hx
              exact ⟨ws, DR.mono hk h1, h2⟩
            · rcases hs with hs | ⟨_, hs⟩
              · exact (hno off hs).elim
              · exact ⟨rfl, hs⟩
          · rcases hs with hs | ⟨e, _⟩
            · exact .inl hs
            · exact .inr (e ▸ hB)
          · rcases hs with hs | ⟨e, _⟩
            · exact h.slt b' o' hs
            · subst e; exact (Array.getElem?_eq_some_iff.1 hh).1

theorem Pres.frz1 (σ : St) (o : Nat) : Pres σ (frz1 o σ) := by
  unfold Pi.frz1
  split
  · rename_i ver s xs hob
    refine ⟨fun t => .inr (.inl rfl), fun t ht => ht, fun p => ?_, fun p hp => .tail _ hp, rfl, rfl⟩
    by_cases e : p = o
    · exact .inl (by simp [e])
    · exact .inr fun ob' hp => by simpa [lk_ups, e] using hp
  · exact Pres.refl σ

theorem Rel.frzX : ∀ (l : List Nat) {G : Gh} {σ : St}, Rel B w0 S0 G outs σ a w → ∃ G', Rel B w0 S0 G' outs (Pi.frz l σ) a w ∧ Ext G w (lks σ) G' w (lks (Pi.frz l σ))
  | [], G, σ, h => ⟨G, h, Ext.refl _ _ _⟩
  | o :: r, G, σ, h => by
    obtain ⟨G1, h1, x1⟩ := h.frz1 o
    obtain ⟨G2, h2, x2⟩ := Rel.frzX r h1
    exact ⟨G2, h2, x1.trans x2⟩

theorem Rel.frz (l : List Nat) {G : Gh} {σ : St} (h : Rel B w0 S0 G outs σ a w) : ∃ G', Rel B w0 S0 G' outs (Pi.frz l σ) a w := by
  obtain ⟨G', h1, _⟩ := Rel.frzX l h
  exact ⟨G', h1⟩

theorem Pres.frz : ∀ (l : List Nat) (σ : St), Pres σ (Pi.frz l σ)
  | [], σ => Pres.refl σ
  | o :: r, σ => (Pres.frz1 σ o).trans (Pres.frz r _)

theorem frz_tm : ∀ (l : List Nat) (σ : St), (Pi.frz l σ).tm = σ.tm
  | [], σ => rfl
  | o :: r, σ => by
    show (Pi.frz r (Pi.frz1 o σ)).tm = _
    rw [frz_tm r]
    unfold Pi.frz1
    split <;> rfl

theorem frzFor_eq (E : Env) (σ : St) (o : Oper) : ∃ l, frzFor E σ o = Pi.frz l σ := by
  unfold frzFor frzOps
  split
  · exact ⟨[], rfl⟩
  · exact ⟨[], rfl⟩
  · split
    · split
      · split
        · exact ⟨_, rfl⟩
        · exact ⟨[], rfl⟩
      · exact ⟨[], rfl⟩
    · exact ⟨_, rfl⟩
  · exact ⟨_, rfl⟩

/-! ### calls of functions that have been proved -/
/-- What a function returns, as one value. -/
def packV : List Value → Value
  | [v] => v
  | vs => .tuple vs.toArray

structure Ret (S : Cells) (w : World) (cods : List Ty) (y : (tyS cods).D) (v : Value) (w' : World) : Prop where
  below : Below w.heap.size w w'
  ret : ∃ S', (∀ b o, S b o → S' b o) ∧ (∀ b o, S' b o → S b o ∨ w.heap.size ≤ b) ∧ (∀ b o, S' b o → b < w'.heap.size) ∧ ∃ vs, TysV S' w' cods y vs ∧ v = packV vs

/-- The one slice, still to be turned. -/
structure RetU (S : Cells) (w : World) (cods : List Ty) (y : (tyS cods).D) (v : Value) (w' : World) : Prop where
  below : Below w.heap.size w w'
  ret : ∃ S', (∀ b o, S b o → S' b o) ∧ (∀ b o, S' b o → S b o ∨ w.heap.size ≤ b) ∧ (∀ b o, S' b o → b < w'.heap.size) ∧ ∃ s ys mo, encs cods y = [.sl false s ys] ∧ 0 < s.size ∧ ArrR S' w' (· < w.heap.size) mo .uniq s ys ∧ RefV mo ys.length v

def preH : Option Prop → Prop
  | none => True
  | some q => q

def EntryOK (P : Program) (f : Nat) (en : Entry) : Prop :=
  (∃ fn, P.funcs[f]? = some fn ∧ fn.body.isSome = true) ∧ (en.total = true → ∀ x, en.pre x) ∧ ∀ (S : Cells) (w : World) (args : List Value) (x : (tyS en.doms).D), (∀ b o, S b o → b < w.heap.size) → TysV S w en.doms x args → en.pre x →
    Calls P f args.toArray w fun
      | .returned v, w' => Ret S w en.cods (en.fn x) v w' ∧ (en.uq = true → RetU S w en.cods (en.fn x) v w')
      | .panicked _, _ => False
      | .outgrown, _ => False

def EnvOK (P : Program) (E : Env) : Prop := ∀ f en, elk f E = some en → EntryOK P f en

theorem vr1_of : ∀ {avs : List AV} {vs : List Value}, All2 (VR G w look) avs vs → (∀ v ∈ avs, ∀ q, v ≠ .tup q) → All2 (VR1 G w look) avs vs
  | [], [], _, _ => trivial
  | [], _ :: _, h, _ => h.elim
  | _ :: _, [], h, _ => h.elim
  | c :: r, u :: us, h, h2 => by
    refine ⟨?_, vr1_of h.2 fun v hv => h2 v (by simp [hv])⟩
    have h3 := h.1
    have h4 := h2 c (by simp)
    cases c <;> first | exact h3 | exact absurd rfl (h4 _)

theorem encRes_rel {l : List Ty} {y : (tyS l).D} {vs : List Value} (h : TysV G.S w l y vs) : VR G w look (encRes l y) (packV vs) := by
  have h1 : All2 (VR G w look) (encs l y) vs := encs_rel h
  have hnot : ∀ (l : List Ty) (y : (tyS l).D), ∀ v ∈ encs l y, ∀ q, v ≠ .tup q := by
    intro l
    induction l with
    | nil => intro y v hv; simp [encs] at hv
    | cons t r ih =>
      have he : ∀ (x : t.2.D) (q : List AV), encTy t x ≠ .tup q := by
        intro x q
        obtain ⟨ag, s⟩ := t
        cases ag with
        | true => simp [encTy]
        | false =>
          simp only [encTy]
          have hs : ∀ (s : Sch) (x : s.D), ∀ c ∈ s.enc x, ∀ q, c ≠ .tup q := by
            intro s
            induction s with
            | unit => intro x c hc; simp [Sch.enc] at hc
            | int k => intro x c hc; simp [Sch.enc] at hc; simp [hc]
            | bool => intro x c hc; simp [Sch.enc] at hc; simp [hc]
            | str => intro x c hc; simp [Sch.enc] at hc; simp [hc]
            | sl s _ => intro x c hc; simp [Sch.enc] at hc; simp [hc]
            | pair p q ihp ihq =>
              intro x c hc
              simp only [Sch.enc, List.mem_append] at hc
              rcases hc with hc | hc
              · exact ihp _ c hc
              · exact ihq _ c hc
          cases hx : s.enc x with
          | nil => simp
          | cons c r => simpa using hs s x c (by simp [hx]) q
      cases r with
      | nil =>
        intro y v hv q
        simp [encs] at hv
        subst hv
        exact he y q
      | cons t' r =>
        intro y v hv q
        simp only [encs, List.mem_cons] at hv
        rcases hv with rfl | hv
        · exact he y.1 q
        · exact ih y.2 v hv q
  unfold encRes
  split
  · rename_i v hv
    rw [hv] at h1
    cases vs with
    | nil => exact h1.elim
    | cons u r => cases r with
      | nil => exact h1.1
      | cons _ _ => exact h1.2.elim
  · rename_i vs' hne
    have hlen := h1.length
    have hp : packV vs = .tuple vs.toArray := by
      cases vs with
      | nil => rfl
      | cons u r => cases r with
        | nil =>
          exfalso
          cases he : encs l y with
          | nil => rw [he] at hlen; simp at hlen
          | cons q r' => cases r' with
            | nil => exact hne q he
            | cons _ _ => rw [he] at hlen; simp at hlen
        | cons _ _ => rfl
    rw [hp]
    exact ⟨vs.toArray, rfl, vr1_of h1 (hnot l y)⟩

/-- After a call. -/
theorem Rel.called (h : Rel B w0 S0 G outs σ a w) {S' : Cells} (hb : Below w.heap.size w w') (h1 : ∀ b o, G.S b o → S' b o) (h2 : ∀ b o, S' b o → G.S b o ∨ w.heap.size ≤ b) (h3 : ∀ b o, S' b o → b < w'.heap.size) : Rel B w0 S0 { G with S := S' } outs σ a w' := by
  have hk : Keeps G.S w S' w' := fun b o hs => ⟨h1 b o hs, hb.cell (p := ⟨b, o, none⟩) (h.slt b o hs)⟩
  refine h.still (G' := { G with S := S' }) rfl hk rfl (fun p ob b c hp hm => ?_) (h.below.trans ((Bel.of hb).mono h.bsz)) (fun b hB => Nat.lt_of_lt_of_le (h.bsz b hB) hb.size) (fun b o hs => ?_) h3
  · have hlt := (h.obj p ob hp).lt hm
    refine ⟨hb.block b hlt, fun off hs => ?_⟩
    rcases h2 b off hs with hs | hs
    · exact hs
    · omega
  · rcases h2 b o hs with hs | hs
    · exact .inl hs
    · exact .inr (fun hB => Nat.not_lt.2 hs (h.bsz _ hB))

end
end Go.Pi
end

section
namespace Go.Pi
open Go.RowKit
set_option linter.unusedSimpArgs false
set_option linter.unusedVariables false

/-- What is asked of the program as a whole. -/
structure ProgOK (P : Program) : Prop where
  quiet : (P.funcs.all fun fn => fn.name != "runtime.NumGoroutine") = true
  mixed : P.follows .mixedOrders = true

section
variable {P : Program} {B : Nat → Prop} {w0 : World} {S0 : Cells} {G G' : Gh} {outs : Outs} {σ : St} {a : Act} {w w' : World} {o : Oper} {look : Look}

abbrev WP (P : Program) (o : Oper) (a : Act) (w : World) (K : Act → World → Prop) (Q : Exit → Act → World → Prop) : Prop := o.wp P a w K Q

variable {K : Act → World → Prop} {Q : Exit → Act → World → Prop}

theorem wp_of_ok {e : Eff} (h : OpOK P B w0 S0 outs σ a w o e) (hk : ∀ v w' G', Rel B w0 S0 G' outs (appEff o.dst σ e.val e.upd) (a.put o.dst v) w' → e.room = true → K (a.put o.dst v) w') : WP P o a w K Q := by
  rcases h with ⟨v, w', G', hd, hR, hroom⟩ | h
  · rcases hd with hd | ⟨hd, rfl⟩
    · unfold WP Oper.wp; rw [hd]; exact hk v w' G' hR hroom
    · unfold WP Oper.wp; rw [hd]; exact hk Go.undef w' G' hR hroom
  · exact h.elim

/-- A call is entered. -/
theorem enter_run (hP : ProgOK P) {c : Call} (ho : o.op = .call c) {fv : Operand} (hc : c.callee = .value fv) {f : FuncId} {caps : Array Value} (hv : a.eval fv = .func (.func f) #[] caps) {fn : Func} (hf : P.funcs[f]? = some fn) (hb : fn.body.isSome = true) :
    (execOp a.eval o).run P w = .ok (.enter f ((c.args.toList.map a.eval ++ caps.toList).toArray)) w := by
  have hn : (fn.name == "runtime.NumGoroutine") = false := by
    have h1 := Array.all_eq_true_iff_forall_mem.1 hP.quiet fn (Array.mem_of_getElem? hf)
    cases hh : (fn.name == "runtime.NumGoroutine") with
    | false => rfl
    | true => simp [bne, hh] at h1
  have hbn : fn.body.isNone = false := by cases hh : fn.body <;> simp_all
  have hargs : (c.args.toList.map a.eval ++ caps.toList).toArray = #[] ++ c.args.map a.eval ++ caps := by
    apply Array.ext'
    simp
  rw [hargs]
  unfold execOp
  simp only [ho, resolve, hc, hv, Deferred.ofValue, invoke, callFunc, Sem.run_bind, Sem.run_pure, Result.andThen_ok]
  have hn' : ¬ (fn.name = "runtime.NumGoroutine") := by simpa using hn
  have hbn' : ¬ (fn.body = none) := by intro e; simp [e] at hb
  simp [program, Sem.run, hf, hn', hbn']

theorem wp_enter {f : FuncId} {args : Array Value} (hr : (execOp a.eval o).run P w = .ok (.enter f args) w) (h : Calls P f args w fun
    | .returned v, w'' => K (a.put o.dst v) w''
    | .panicked chain, w'' => Q (.panic chain) a w''
    | .outgrown, _ => LetsOut Q) : o.wp P a w K Q := by
  unfold Oper.wp
  rw [hr]
  exact h

theorem op_call (hP : ProgOK P) {E : Env} (hE : EnvOK P E) (h : Rel B w0 S0 G outs σ a w) {c : Call} (ho : o.op = .call c) {fv : Operand} (hc : c.callee = .value fv) {f : FuncId} (hf : ev σ.tm fv = .fn f []) {en : Entry} (hen : elk f E = some en)
    {x : (tyS en.doms).D} (hx : decs (lks σ) en.doms (c.args.toList.map (ev σ.tm)) = some x) (hpre : preH (preOf en x))
    (hk : ∀ v w', Ret G.S w en.cods (en.fn x) v w' → (en.uq = true → RetU G.S w en.cods (en.fn x) v w') → K (a.put o.dst v) w') : o.wp P a w K Q := by
  have hv := ev_rel h fv
  rw [hf] at hv
  obtain ⟨caps, hv, hcaps⟩ := hv
  have hc0 : caps.toList = [] := by
    cases hl : caps.toList with
    | nil => rfl
    | cons _ _ => rw [hl] at hcaps; exact hcaps.elim
  obtain ⟨⟨fn, hfn, hb⟩, htot, hE⟩ := hE f en hen
  have hpre : en.pre x := by
    unfold preOf at hpre
    split at hpre
    · rename_i ht
      exact htot ht x
    · exact hpre
  have hr := enter_run (w := w) hP ho hc hv hfn hb
  rw [hc0, List.append_nil] at hr
  have ht := decs_rel h.obj (evs_rel h c.args.toList) hx
  refine wp_enter hr (Calls.mono (hE G.S w _ x h.slt ht hpre) fun e w' he => ?_)
  cases e with
  | returned v => exact hk v w' he.1 he.2
  | panicked chain => exact he.elim
  | outgrown => exact he.elim

theorem op_callPure (hP : ProgOK P) {E : Env} (hE : EnvOK P E) (h : Rel B w0 S0 G outs σ a w) {c : Call} (ho : o.op = .call c) {fv : Operand} (hc : c.callee = .value fv) {f : FuncId} (hf : ev σ.tm fv = .fn f []) {en : Entry} (hen : elk f E = some en)
    {x : (tyS en.doms).D} (hx : decs (lks σ) en.doms (c.args.toList.map (ev σ.tm)) = some x) (hpre : preH (preOf en x))
    (hk : ∀ v w' G', Rel B w0 S0 G' outs (appEff o.dst σ (encRes en.cods (en.fn x)) []) (a.put o.dst v) w' → K (a.put o.dst v) w') : o.wp P a w K Q := by
  refine op_call hP hE h ho hc hf hen hx hpre fun v w' hret _ => ?_
  obtain ⟨hbl, S', h1, h2, h3, vs, hvs, rfl⟩ := hret
  have hR := h.called hbl h1 h2 h3
  exact hk _ _ _ (hR.put o.dst (encRes_rel (G := { G with S := S' }) hvs))

/-- The one slice becomes an object. -/
theorem op_callOwn (hP : ProgOK P) {E : Env} (hE : EnvOK P E) (h : Rel B w0 S0 G outs σ a w) {c : Call} (ho : o.op = .call c) {fv : Operand} (hc : c.callee = .value fv) {f : FuncId} (hf : ev σ.tm fv = .fn f []) {en : Entry} (hen : elk f E = some en)
    {x : (tyS en.doms).D} (hx : decs (lks σ) en.doms (c.args.toList.map (ev σ.tm)) = some x) {site : Nat} {e : Eff} (he : callOwn (lks σ) site en x = some e) (hpre : preH (preOf en x))
    (hk : ∀ v w' G', Rel B w0 S0 G' outs (appEff o.dst σ e.val e.upd) (a.put o.dst v) w' → K (a.put o.dst v) w') : o.wp P a w K Q := by
  unfold callOwn at he
  split at he
  · rename_i huq hsite
    split at he
    · rename_i ex s ys henc
      obtain rfl := Option.some.inj he
      refine op_call hP hE h ho hc hf hen hx hpre fun v w' _ hretU => ?_
      obtain ⟨hbl, S', h1, h2, h3, s', ys', mo, henc', hpos, hA, hrv⟩ := hretU huq
      rw [henc] at henc'
      simp at henc'
      obtain ⟨_, rfl, e2⟩ := henc'
      have e3 := eq_of_heq e2
      subst e3
      have hR := h.called hbl h1 h2 h3
      have hR2 := hR.upd1 (G' := { G with S := S', M := fun p => if p = site then mo else G.M p }) rfl site (.arr .uniq 0 s ys) σ.dt (site :: σ.dob) (Keeps.refl _ _) (fun p ob e _ => by simp [e]) (fun p ob b c _ _ _ => ⟨rfl, fun _ h => h⟩)
        (by
          have hs2 : lk site σ.sto = none := hsite
          rw [hs2]; trivial)
        ⟨hpos, by
          simp only [if_pos]
          cases mo with
          | none => exact hA
          | some q =>
            obtain ⟨b, cap⟩ := q
            exact ⟨fun hB => hA.1 (h.bsz _ hB), hA.2⟩⟩
        (fun p ob b c c' e hp hb hb' => by
          simp at hb'
          subst hb'
          have hlt := (h.obj p ob hp).lt hb
          have := hA.1
          omega) hR.below hR.bsz (fun _ _ h => .inl h) hR.slt
      refine hk v w' _ (hR2.put o.dst (av := .ref site 0) ?_)
      refine refV_ref (n := ys.length) (xs := ys) (s := s) (m := .uniq) ?_ (by simp [lks, lk_ups]) rfl rfl (by simpa using hrv)
      cases mo with
      | none => obtain ⟨_, rfl⟩ := hrv; trivial
      | some q => simp only [RefV] at hrv; subst hrv; trivial
    · simp at he
  · simp at he

end
end Go.Pi
end

section
namespace Go.Pi
open Go.RowKit
set_option linter.unusedSimpArgs false
set_option linter.unusedVariables false

theorem withPre_iff {p : Option Prop} {k : Prop} : withPre p k ↔ preH p ∧ k := by
  cases p <;> simp [withPre, preH]

theorem br_true {b : Bool} {x y : Prop} (hb : b = true) (h : br b x y) : x := by subst hb; exact h
theorem br_false {b : Bool} {x y : Prop} (hb : b = false) (h : br b x y) : y := by subst hb; exact h
theorem br_no {b : Bool} {x : Prop} (h : br b x False) : b = true ∧ x := by cases b; exact h.elim; exact ⟨rfl, h⟩

section
variable {P : Program} {B : Nat → Prop} {w0 : World} {S0 : Cells} {G G' : Gh} {outs : Outs} {σ : St} {a : Act} {w w' : World} {o : Oper} {look : Look}
variable {K : Act → World → Prop} {Q : Exit → Act → World → Prop}

theorem plainT_parts {t : TypeId} (h : plainT P t = true) : ∃ d, P.underlying t = some d ∧ ∀ ms, d ≠ .interface ms := by
  unfold plainT at h
  cases hu : P.underlying t with
  | none => simp [hu] at h
  | some d =>
    refine ⟨d, rfl, fun ms e => ?_⟩
    subst e
    simp [hu] at h

theorem elemT_under {t e : TypeId} (h : elemT P t = some e) : P.underlying t = some (.slice e) := by
  unfold elemT at h
  split at h
  · rename_i e' hu
    simp at h; subst h; exact hu
  · simp at h

set_option maxHeartbeats 4000000 in
theorem opF_sound (hP : ProgOK P) {E : Env} (hE : EnvOK P E) {own : List Nat} {site : Nat} (h : Rel B w0 S0 G outs σ a w) {e : Eff} (he : opF P E own site (ev σ.tm) (lks σ) o = some e) (hc : e.chk = true) (hpre : preH e.pre)
    (hk : ∀ v w' G', Rel B w0 S0 G' outs (appEff o.dst σ e.val e.upd) (a.put o.dst v) w' → e.room = true → K (a.put o.dst v) w') : WP P o a w K Q := by
  have fin : OpOK P B w0 S0 outs σ a w o e → WP P o a w K Q := fun hok => wp_of_ok hok hk
  cases ho : o.op <;> simp only [opF, ho] at he <;> try (simp at he; done)
  case move x => exact fin (op_move h (.inl ho) he)
  case assign x => exact fin (op_move h (.inr ho) he)
  case pick c x y =>
    split at he
    · rename_i b hb
      exact fin (op_pick h ho hb (by cases b <;> exact he))
    · simp at he
  case alloc t =>
    split at he
    · rename_i zs hs hz
      split at he
      · rename_i m el hu
        split at he
        · rename_i hpos
          split at he
          · rename_i xs hx
            obtain rfl := Option.some.inj he
            exact fin (op_alloc h ho hs hz (.inr ⟨_, m, xs, hpos, hx, rfl⟩))
          · simp at he
        · simp at he
      · obtain rfl := Option.some.inj he
        exact fin (op_alloc h ho hs hz (.inl rfl))
    · simp at he
  case box t x =>
    split at he
    · rename_i vs hs hz
      split at he
      · rename_i m el hu
        split at he
        · rename_i hpos
          split at he
          · rename_i xs hx
            obtain rfl := Option.some.inj he
            exact fin (op_box h ho hs hz (.inr ⟨_, m, xs, hpos, hx, rfl⟩))
          · simp at he
        · simp at he
      · obtain rfl := Option.some.inj he
        exact fin (op_box h ho hs hz (.inl rfl))
    · simp at he
  case load t x =>
    split at he
    · rename_i r hr
      split at he
      · rename_i hok
        exact fin (op_load h ho hr hok he hc)
      · simp at he
    · simp at he
  case store t x y =>
    split at he
    · rename_i vs hz
      split at he
      · rename_i hok
        split at he
        · rename_i u hu
          obtain rfl := Option.some.inj he
          exact fin (op_store h ho hz hok.1 hok.2 hu hc)
        · simp at he
      · simp at he
    · simp at he
  case fieldAddr t x f =>
    split at he
    · rename_i fs hu
      split at he
      · rename_i fd hf
        split at he
        · simp at he
        · rename_i hcond
          simp only [not_or, Bool.not_eq_true, Option.isNone_eq_false_iff, Bool.not_eq_false] at hcond
          exact fin (op_fieldAddr h ho hu hf hcond.1 hcond.2.1 hcond.2.2 he)
      · simp at he
    · simp at he
  case indexAddr t x i =>
    have close : ∀ {av : AV} {c : Bool}, chk1 c av = some e → (∃ v, Done P o a w v w ∧ VR G w (lks σ) av v) → WP P o a w K Q := by
      intro av c h1 ⟨v, hd, hv⟩
      refine fin ?_
      rw [chk1_eq h1]
      exact OpOK.of_value h hv hd
    split at he
    · rename_i k n hi
      split at he
      · rename_i m el ob off hu hx
        split at he
        · rename_i m' ver s xs hob
          split at he
          · split at he
            · rename_i hcond
              obtain ⟨hs, rfl, hinf⟩ := hcond
              have hc' := hc
              rw [chk1_eq he] at hc'
              simp at hc'
              exact close he (op_indexAddr h ho hi hc'.1 hinf (.inl ⟨m', ob, ver, s, xs, hu, hx, hob, hs, hc'.2, rfl⟩))
            · simp at he
          · simp at he
        · rename_i fz cs hob
          split at he
          · rename_i hel
            obtain ⟨hinf, hs⟩ := elOk_parts hel
            have hc' := hc
            rw [chk1_eq he] at hc'
            simp at hc'
            exact close he (op_indexAddr h ho hi hc'.1 hinf (.inr (.inl ⟨m, ob, off, fz, cs, hu, hx, hob, hs, hc'.2, rfl⟩)))
          · simp at he
        · simp at he
      · rename_i el ex s xs hu hx
        split at he
        · rename_i hcond
          have hc' := hc
          rw [chk1_eq he] at hc'
          simp at hc'
          exact close he (op_indexAddr h ho hi hc'.1 hcond.2 (.inr (.inr (.inl ⟨ex, s, xs, hu, hx, hcond.1, hc'.2, rfl⟩))))
        · simp at he
      · rename_i el ob ver hu hx
        split at he
        · rename_i m ver' s xs hob
          split at he
          · rename_i hver
            subst hver
            split at he
            · rename_i hcond
              have hc' := hc
              rw [chk1_eq he] at hc'
              simp at hc'
              exact close he (op_indexAddr h ho hi hc'.1 hcond.2 (.inr (.inr (.inr ⟨ob, ver, m, s, xs, hu, hx, hob, hcond.1, hc'.2, rfl⟩))))
            · simp at he
          · simp at he
        · simp at he
      · simp at he
    · simp at he
  case index t x i =>
    split at he
    · rename_i m el cs k n hu hx hi
      split at he
      · rename_i hel
        split at he
        · rename_i xs hd
          exact fin (op_index h ho hu hx hi hel.1 hel.2 hd hc he)
        · simp at he
      · simp at he
    · rename_i s k n hu hx hi
      exact fin (op_indexStr h ho hu hx hi hc he)
    · simp at he
  case field t x f =>
    split at he
    · rename_i fs cs hu hx
      split at he
      · rename_i fd hf
        split at he
        · rename_i hcond
          exact fin (op_field h ho hu hf hx hcond.1 hcond.2 he)
        · simp at he
      · simp at he
    · simp at he
  case binOp op t x y t' =>
    split at he
    · rename_i k n k' m hx hy
      split at he
      · exact fin (op_shift h ho hx hy hc (.inl ⟨rfl, he⟩))
      · exact fin (op_shift h ho hx hy hc (.inr ⟨rfl, he⟩))
      · rename_i h1 h2
        split at he
        · rename_i hkk
          subst hkk
          exact fin (op_binInt h ho hx hy ⟨fun e => h1 e, fun e => h2 e⟩ he hc)
        · simp at he
    · rename_i n m hx hy
      split at he
      · rename_i hu
        split at he
        · exact fin (op_binBool h ho hx hy hu (.inl ⟨rfl, he⟩))
        · exact fin (op_binBool h ho hx hy hu (.inr ⟨rfl, he⟩))
        · simp at he
      · simp at he
    · rename_i n m hx hy
      exact fin (op_binStr h ho hx hy hc (by split at he <;> first | exact he | (simp at he; done)))
    · rename_i n m hx hy
      split at he
      · simp at he
      · rename_i hcond
        simp only [not_or, Bool.not_eq_true, Bool.not_eq_false] at hcond
        split at he
        · rename_i c heq
          exact fin (op_binAgg h ho hx hy hcond.1 hcond.2 heq (.inl ⟨rfl, he⟩))
        · rename_i c heq
          exact fin (op_binAgg h ho hx hy hcond.1 hcond.2 heq (.inr ⟨rfl, he⟩))
        · simp at he
    · rename_i ex sc xs hx hy
      split at he
      · rename_i el hu
        exact fin (op_binNil h ho hx hy hu hc (.inl ⟨rfl, he⟩))
      · rename_i el hu
        exact fin (op_binNil h ho hx hy hu hc (.inr ⟨rfl, he⟩))
      · simp at he
    · simp at he
  case unOp op t x =>
    split at he
    · rename_i k n hx
      exact fin (op_unOp h ho (.inl ⟨k, n, rfl, hx, he⟩))
    · rename_i b hx
      exact fin (op_unOp h ho (.inr ⟨b, rfl, hx, he⟩))
    · simp at he
  case convert src dst x =>
    split at he
    · rename_i k k' n hd hx
      split at he
      · rename_i hs
        exact fin (op_convert h ho hd hs hx he)
      · simp at he
    · simp at he
  case build t ps =>
    split at he
    · rename_i zs hz
      split at he
      · simp at he
      · rename_i hb
        split at he
        · rename_i cs hf
          exact fin (op_build h ho hz (by simpa using hb) hf he)
        · simp at he
    · simp at he
  case buildSlice t len ps =>
    split at he
    · rename_i el hel
      split at he
      · rename_i zs hz
        split at he
        · rename_i z hd
          split at he
          · rename_i hcond
            split at he
            · rename_i xs hs
              split at he
              · exact fin (op_buildSlice h ho (elemT_under hel) hz hd hcond.1 hcond.2.1 hcond.2.2 hs he)
              · split at he
                · rename_i hsite
                  obtain rfl := Option.some.inj he
                  exact fin (op_buildSliceOwn h ho (elemT_under hel) hz hd hcond.1 hcond.2.1 hcond.2.2 hs hsite)
                · simp at he
            · simp at he
          · simp at he
        · simp at he
      · simp at he
    · simp at he
  case extract x i =>
    split at he
    · rename_i vs hx
      split at he
      · rename_i hi
        exact fin (op_extract h ho hx hi he)
      · simp at he
    · simp at he
  case makeFunc fv first cap =>
    split at he
    · rename_i f l hfst hl
      exact fin (op_makeFunc h ho hfst hl he)
    · simp at he
  case makeSlice t x y =>
    split at he
    · rename_i el n c hel hx hy
      split at he
      · simp at he
      · rename_i hsite
        split at he
        · rename_i z hz
          split at he
          · rename_i hcond
            cases hzz : zeroCs P el with
            | none => simp [hzz] at hz
            | some zs =>
              simp [hzz] at hz
              exact fin (op_makeSlice h ho (elemT_under hel) hx hy hzz hz hcond.1 hcond.2.1 hcond.2.2 hsite hc he)
          · simp at he
        · simp at he
    · simp at he
  case slice t x lo hi mx =>
    split at he
    · rename_i l r hmx hl hr
      split at he
      · rename_i el hel
        split at he
        · rename_i xs hx
          split at he
          · rename_i hcond
            exact fin (op_slice h ho (elemT_under hel) hl hr hx hcond.1 hc he)
          · simp at he
        · simp at he
      · split at he
        · rename_i s hu hx
          exact fin (op_sliceStr h ho hu hl hr hx hc he)
        · simp at he
    · simp at he
  case makeInterface t x =>
    split at he
    · rename_i hp
      obtain ⟨d, hu, hd⟩ := plainT_parts hp
      exact fin (op_makeInterface h ho hu hd he)
    · simp at he
  case call c =>
    cases hcal : c.callee <;> simp only [hcal] at he <;> try (simp at he; done)
    case builtin bi =>
      cases bi <;> simp only [] at he <;> try (simp at he; done)
      case len =>
        split at he
        · rename_i t x ht hx
          split at he
          · rename_i n el hu
            exact fin (op_len h ho hcal ht hx (.inl ⟨n, el, hu, he⟩))
          · rename_i el hu
            split at he
            · rename_i n hl
              exact fin (op_len h ho hcal ht hx (.inr (.inl ⟨el, n, hu, hl, he⟩)))
            · simp at he
          · rename_i hu
            split at he
            · rename_i s hs
              exact fin (op_len h ho hcal ht hx (.inr (.inr ⟨s, hu, hs, he⟩)))
            · simp at he
          · simp at he
        · simp at he
      case append =>
        split at he
        · rename_i t t' x y ht ht' hx hy
          split at he
          · rename_i el el' hel hel'
            split at he
            · rename_i hcond
              obtain ⟨h1, h2, h3, h4, h5, h6⟩ := hcond
              have hop : o.op = .call { callee := .builtin .append, args := #[x, y], argTypes := #[t, t'] } := by
                rw [ho]
                obtain ⟨cal, args, ats⟩ := c
                simp only at hcal ht ht' hx hy h5 h6
                subst hcal
                have e1 : args = #[x, y] := by
                  apply Array.ext
                  · simpa using h5
                  · intro i hi1 hi2
                    have : i = 0 ∨ i = 1 := by simp at hi2; omega
                    rcases this with rfl | rfl
                    · have := Array.getElem?_eq_getElem hi1; rw [hx] at this; simpa using this.symm
                    · have := Array.getElem?_eq_getElem hi1; rw [hy] at this; simpa using this.symm
                have e2 : ats = #[t, t'] := by
                  apply Array.ext
                  · simpa using h6
                  · intro i hi1 hi2
                    have : i = 0 ∨ i = 1 := by simp at hi2; omega
                    rcases this with rfl | rfl
                    · have := Array.getElem?_eq_getElem hi1; rw [ht] at this; simpa using this.symm
                    · have := Array.getElem?_eq_getElem hi1; rw [ht'] at this; simpa using this.symm
                rw [e1, e2]
              split at he
              · rename_i ys hys
                unfold appF at he
                split at he
                · rename_i hnil
                  split at he
                  · rename_i hsite
                    obtain rfl := Option.some.inj he
                    exact fin (op_append_nil h hop (elemT_under hel) (elemT_under hel') h1 h2 h3 h4 hys hnil hsite hc)
                  · simp at he
                · rename_i s' xs hxs
                  split at he
                  · rename_i hs
                    subst hs
                    obtain rfl := Option.some.inj he
                    exact fin (op_append_exact h hop (elemT_under hel) (elemT_under hel') h1 h2 h3 h4 hys hxs hc)
                  · simp at he
                · rename_i ob ver hxr
                  split at he
                  · rename_i m ver' s' xs hob
                    split at he
                    · rename_i hver
                      subst hver
                      split at he
                      · rename_i hs
                        subst hs
                        split at he
                        · obtain rfl := Option.some.inj he
                          exact fin (op_append_ref h hop (elemT_under hel) (elemT_under hel') h1 h2 h3 h4 hys hxr hob rfl hc)
                        · obtain rfl := Option.some.inj he
                          exact fin (op_append_ref h hop (elemT_under hel) (elemT_under hel') h1 h2 h3 h4 hys hxr hob rfl hc)
                        · simp at he
                      · simp at he
                    · simp at he
                  · simp at he
                · simp at he
              · simp at he
            · simp at he
          · simp at he
        · simp at he
      case max =>
        split at he
        · rename_i k n r hx
          split at he
          · rename_i v hf
            exact fin (op_maxmin h ho true hcal hx hf he)
          · simp at he
        · simp at he
      case min =>
        split at he
        · rename_i k n r hx
          split at he
          · rename_i v hf
            exact fin (op_maxmin h ho false hcal hx hf he)
          · simp at he
        · simp at he
    case value fv =>
      split at he
      · rename_i f hf
        split at he
        · rename_i en hen
          split at he
          · rename_i x hx
            split at he
            · obtain rfl := Option.some.inj he
              exact op_callPure hP hE h ho hcal hf hen hx hpre fun v w' G' hR => hk v w' G' hR rfl
            · have he0 := he
              unfold callOwn at he0
              split at he0
              · split at he0
                · obtain rfl := Option.some.inj he0
                  exact op_callOwn hP hE h ho hcal hf hen hx he hpre fun v w' G' hR => hk v w' G' hR rfl
                · simp at he0
              · simp at he0
          · simp at he
        · simp at he
      · simp at he

end
end Go.Pi
end

section
namespace Go.Pi
open Go.RowKit
set_option linter.unusedSimpArgs false
set_option linter.unusedVariables false

/-- The fence of all functions, in a round or in none. -/
abbrev Fw (ro : Option Nat) : Fence := { Fence.wide with round := ro }

section conv
variable {P : Program} {o : Oper} {a : Act} {w : World} {K : Act → World → Prop} {Q : Exit → Act → World → Prop} {ro : Option Nat} {n : Nat}

theorem callsIn_fw {f : FuncId} {args : Array Value} {R : Ending → World → Prop} : CallsIn (Fw ro) n P f args w R ↔ Calls P f args w R := callsIn_wide (n := n)

theorem wpIn_of_wp (hnd : ∀ c, o.op ≠ .defer c) (h : o.wp P a w K Q) : o.wpIn (Fw ro) n P a w K Q := by
  refine ⟨fun _ _ => trivial, ?_⟩
  rw [Oper.semAt_eq _ _ _ hnd]
  unfold Oper.wp at h
  cases hr : (execOp a.eval o).run P w with
  | ok x w' =>
    rw [hr] at h
    cases x <;> simp only [Oper.upon, Oper.uponIn] at h ⊢ <;> try exact h
    · exact ⟨fun e => (by cases e), callsIn_fw.2 h⟩
    · refine ⟨fun e => (by cases e), fun c cs _ => ?_⟩
      obtain ⟨v, w'', h1, h2⟩ := h c cs
      exact ⟨v, w'', h1, stepsIn_wide.2 h2⟩
  | halt x w' =>
    rw [hr] at h
    cases x <;> simp only [Oper.upon, Oper.uponIn] at h ⊢ <;> exact h
end conv

section scope
variable {P : Program} {b : Frame} {a : Act} {k : List Item} {cs : List Frame} {w : World} {Q : Exit → Act → World → Prop} {F : Fence} {n : Nat}
theorem stepR_scope {c : Code} : step P (lone (b.atR a (.code (.scope c) :: k)) cs w) = .next (lone (b.atR a (.code c :: .inScope c :: k)) cs w) :=
  step_lone_go (by simp [stepG, stepG.exec, Frame.atR])
theorem stepR_inScope {c : Code} : step P (lone (b.atR a (.inScope c :: k)) cs w) = .next (lone (b.atR a k) cs w) :=
  step_lone_go (by simp [stepG, stepG.exec, Frame.atR])

theorem wpIn_scope_straight {c : Code} (h : c.wpIn F n P (Exit.noGoto Q) a w) : (Code.scope c).wpIn F n P Q a w := by
  intro b k cs hro hb hr
  have h0 : (lone (b.atR a (.code (.scope c) :: k)) cs w).fenced P F := fenced_calm hb hr rfl
  obtain ⟨e, a₁, w₁, hq, harr⟩ := h b (.inScope c :: k) cs hro hb hr
  cases e with
  | normal => exact ⟨.normal, a₁, w₁, hq, .head h0 stepR_scope (StepsIn.trans harr (.one (fenced_calm hb hr rfl) stepR_inScope))⟩
  | exit id =>
    refine ⟨.exit id, a₁, w₁, hq, .of_steps (.one h0 stepR_scope) ⟨fun k' hk => harr.1 k' (by simp [exitTo, hk]), fun hs hk => harr.2 hs (by simp [exitTo, hk])⟩⟩
  | goto l => exact hq.elim
  | ret => exact ⟨_, a₁, w₁, hq, .of_steps (.one h0 stepR_scope) harr⟩
  | panic ch => exact ⟨_, a₁, w₁, hq, .of_steps (.one h0 stepR_scope) harr⟩
  | outgrown => exact ⟨_, a₁, w₁, hq, .of_steps (.one h0 stepR_scope) harr⟩

theorem wpIn_loop_n {c : Code} {V : Type} (R : V → Act → World → Prop) (step : (V → Prop) → V → Prop)
    (round : ∀ (again : V → Prop) v a w, R v a w → step again v → c.wpIn F n P (Exit.then (fun a' w' => ∃ v', again v' ∧ R v' a' w') Q) a w) :
    ∀ (m : Nat) (v : V) (a : Act) (w : World), iter step m v → R v a w → (Code.loop c).wpIn F n P Q a w := by
  intro m v a w hit hR b k cs hro hb hr
  have key : ∀ (m : Nat) (v : V) (a : Act) (w : World), iter step m v → R v a w →
      ∃ e a' w', Q e a' w' ∧ ArrivesIn (Machine.fenced P F) P (lone (b.atR a (.code c :: .inLoop c :: k)) cs w) b k cs e a' w' := by
    intro m
    induction m with
    | zero => intro v a w h _; exact h.elim
    | succ m ih =>
      intro v a w h hR
      obtain ⟨e, a₁, w₁, hq, harr⟩ := round (iter step m) v a w hR h b (.inLoop c :: k) cs hro hb hr
      cases e with
      | normal =>
        obtain ⟨v', h1, h2⟩ := hq
        obtain ⟨e₂, a₂, w₂, hq₂, harr₂⟩ := ih v' a₁ w₁ h1 h2
        exact ⟨e₂, a₂, w₂, hq₂, .of_steps (StepsIn.trans harr (.one (fenced_calm hb hr rfl) stepR_inLoop)) harr₂⟩
      | exit id => exact ⟨_, a₁, w₁, hq, .pass (x := .inLoop c) rfl (fun _ _ => .inl (by simp)) harr⟩
      | goto l => exact ⟨_, a₁, w₁, hq, .pass (x := .inLoop c) rfl (fun _ _ => .inl (by simp)) harr⟩
      | ret => exact ⟨_, a₁, w₁, hq, .pass (x := .inLoop c) rfl (fun _ _ => .inl (by simp)) harr⟩
      | panic ch => exact ⟨_, a₁, w₁, hq, .pass (x := .inLoop c) rfl (fun _ _ => .inl (by simp)) harr⟩
      | outgrown => exact ⟨_, a₁, w₁, hq, .pass (x := .inLoop c) rfl (fun _ _ => .inl (by simp)) harr⟩
  obtain ⟨e, a', w', hq, harr⟩ := key m v a w hit hR
  exact ⟨e, a', w', hq, .of_steps (.one (fenced_calm hb hr rfl) stepR_loop) harr⟩
end scope

/-! ### records -/
def jumpOf : Ex → Code
  | .normal => .skip
  | .exit i => .exit i
  | .ret => .ret
def recAt (r : Loop) : LSt → Loop
  | .ready => { r with state := .ready, pending := none }
  | .busy => { r with state := .busy, pending := none }
  | .done e => { r with state := .done, pending := some (jumpOf e) }
def mkD (D : Nat) : Deferred := { target := .collected D, args := #[] }

/-- What stays the same while a frame's code runs. -/
structure Ctx where
  B : Nat
  w0 : World
  R : Nat → Option Loop := fun _ => none
  dm : List Nat := []
  rds : List Nat := []
  ro : Option Nat := none

structure Held (C : Ctx) (S0 : Cells) (outs : Outs) (lp : List (Nat × LSt)) (df : List Deferred) (F : Nat → Prop) (w1 : World) : Prop where
  low : ∀ b, b < C.B → F b
  below : Below C.B C.w0 w1
  lt : ∀ b, F b → b < w1.heap.size
  s0 : ∀ b o, S0 b o → b < C.B
  dfr : ∃ Ds : List Nat, df = Ds.map mkD ∧ Ds.Nodup ∧ ∀ D ∈ Ds, F D ∧ C.B ≤ D ∧ D ∉ C.dm ∧ w1.heap[D]? = some (.deferred (some []))
  dm : ∀ D ∈ C.dm, F D ∧ C.B ≤ D ∧ w1.heap[D]? = some (.deferred (some []))
  rds : ∀ l ∈ C.rds, F l ∧ ∃ r, w1.heap[l]? = some (.loop r)
  ro : ∀ l, C.ro = some l → l ∈ C.rds
  lps : ∀ i s, lpAt i lp = some s → ∃ b r, outs.Y i = some b ∧ C.R i = some r ∧ F b ∧ C.B ≤ b ∧ w1.heap[b]? = some (.loop (recAt r s))
  ydom : ∀ i b, outs.Y i = some b → ∃ s, lpAt i lp = some s
  yinj : ∀ i j b, outs.Y i = some b → outs.Y j = some b → i = j

def RX (C : Ctx) (S0 : Cells) (G : Gh) (outs : Outs) (σ : St) (a : Act) (w : World) : Prop :=
  ∃ F w1, Rel F w1 S0 G outs σ a w ∧ Held C S0 outs σ.lps a.defers F w1

section
variable {P : Program} {C : Ctx} {S0 : Cells} {G G' : Gh} {outs : Outs} {σ σ' : St} {a a' : Act} {w w' w1 : World} {F : Nat → Prop}

theorem RX.use (h : RX C S0 G outs σ a w) : ∃ F w1, Rel F w1 S0 G outs σ a w ∧ ∀ σ' G' a' w', Rel F w1 S0 G' outs σ' a' w' → a'.defers = a.defers → σ'.lps = σ.lps → RX C S0 G' outs σ' a' w' := by
  obtain ⟨F, w1, h1, h2⟩ := h
  exact ⟨F, w1, h1, fun σ' G' a' w' h3 h4 h5 => ⟨F, w1, h3, by rw [h4, h5]; exact h2⟩⟩

/-- A new block that is nobody's. -/
theorem Rel.fxAlloc (h : Rel F w1 S0 G outs σ a w) (o : Obj) : Rel (fun b => F b ∨ b = w.heap.size) (w.alloc o) S0 G outs σ a (w.alloc o) := by
  have hk : Keeps G.S w G.S (w.alloc o) := fun b off hS => ⟨hS, World.cell?_alloc_lt w _ _ (h.slt b off hS)⟩
  have hx : Ext G w (lks σ) G (w.alloc o) (lks σ) := ⟨hk, fun p fz cs hp => ⟨rfl, fz, cs, hp⟩, fun p m ver s xs hp => ⟨m, ver, xs, hp, rfl, Nat.le_refl _, fun _ => rfl, fun _ => ⟨rfl, rfl⟩⟩, rfl⟩
  have hO : ∀ p ob, lk p σ.sto = some ob → ObR (fun b => F b ∨ b = w.heap.size) G (w.alloc o) (lks σ) p ob := fun p ob hp => by
    have h1 := h.obj p ob hp
    have h2 := ObR.ext (G' := G) hx rfl (fun b c hb => ⟨Below.heap_alloc w _ b (h1.lt hb), fun _ hS => hS⟩) (fun _ _ hS => hS) h1
    cases ob with
    | cells fz cs =>
      obtain ⟨b, c, vs, ty, e1, e2, e3⟩ := h2
      exact ⟨b, c, vs, ty, e1, fun e => e.elim e2 (fun e => absurd (h1.lt e1) (by omega)), e3⟩
    | arr m ver s xs =>
      obtain ⟨hp2, h2⟩ := h2
      refine ⟨hp2, ?_⟩
      cases hM : G.M p with
      | none => rw [hM] at h2; exact h2
      | some q =>
        obtain ⟨b, cap⟩ := q
        rw [hM] at h2
        exact ⟨fun e => e.elim h2.1 (fun e => absurd (h1.lt hM) (by omega)), h2.2⟩
  exact ⟨Bel.refl _ _, fun b hb => by
      rcases hb with hb | rfl
      · have := h.bsz b hb; simp; omega
      · simp, h.s0, fun b off hS => by
      have := h.slt b off hS
      rcases h.snew b off hS with h1 | h1
      · exact .inl h1
      · exact .inr fun e => e.elim h1 (fun e => by omega), fun b off hS => by have := h.slt b off hS; simp; omega, h.tml, fun t => VR.ext hx (h.tm t),
    h.outl.imp fun _ _ hl => ⟨hl.1, fun t => VR.ext hx (hl.2 t)⟩, hO, h.inj, h.yeq⟩

/-- A block that is nobody's is turned. -/
theorem Rel.fxPut (h : Rel F w1 S0 G outs σ a w) {D : Nat} (hF : F D) (hS0 : ∀ b o, S0 b o → b ≠ D) (x : Obj) : Rel F (w.putObj D x) S0 G outs σ a (w.putObj D x) := by
  have hSD : ∀ b o, G.S b o → b ≠ D := fun b o hS e => by
    subst e
    rcases h.snew b o hS with h1 | h1
    · exact hS0 b o h1 rfl
    · exact h1 hF
  have hblk : ∀ b, b ≠ D → (w.putObj D x).heap[b]? = w.heap[b]? := fun b hb => World.putObj_heap_other hb
  have hk : Keeps G.S w G.S (w.putObj D x) := fun b off hS => ⟨hS, World.cell?_of_block (hblk b (hSD b off hS))⟩
  have hx : Ext G w (lks σ) G (w.putObj D x) (lks σ) := ⟨hk, fun p fz cs hp => ⟨rfl, fz, cs, hp⟩, fun p m ver s xs hp => ⟨m, ver, xs, hp, rfl, Nat.le_refl _, fun _ => rfl, fun _ => ⟨rfl, rfl⟩⟩, rfl⟩
  refine ⟨Bel.refl _ _, fun b hb => by simpa using h.bsz b hb, h.s0, h.snew, fun b off hS => by simpa using h.slt b off hS, h.tml, fun t => VR.ext hx (h.tm t),
    h.outl.imp fun _ _ hl => ⟨hl.1, fun t => VR.ext hx (hl.2 t)⟩, fun p ob hp => ?_, h.inj, h.yeq⟩
  have h1 := h.obj p ob hp
  exact ObR.ext (G' := G) hx rfl (fun b c hb => ⟨hblk b (fun e => by subst e; exact h1.ge hb hF), fun _ hS => hS⟩) (fun _ _ hS => hS) h1

/-! ### what names no 'yield' -/
theorem VR0.noY {look : Look} {i : Nat} {Y' : Nat → Option Nat} (hY : ∀ j, j ≠ i → Y' j = G.Y j) : ∀ {av : AV} {v : Value}, av.noY0 i = true → VR0 G w look av v → VR0 { G with Y := Y' } w look av v := by
  intro av v hc h
  cases av with
  | yld j =>
    simp only [AV.noY0, Bool.not_eq_true', beq_eq_false_iff_ne, ne_eq] at hc
    exact ⟨h.1, fun b hb => h.2 b (by rw [← hY j hc]; exact hb)⟩
  | _ => exact h

theorem CR.noYs {look : Look} {i : Nat} {Y' : Nat → Option Nat} (hY : ∀ j, j ≠ i → Y' j = G.Y j) : ∀ {cs : List AV} {vs : List Value}, cs.all (AV.noY0 i) = true → All2 (CR G w look) cs vs → All2 (CR { G with Y := Y' } w look) cs vs
  | [], [], _, _ => trivial
  | [], _ :: _, _, h => h.elim
  | _ :: _, [], _, h => h.elim
  | c :: r, v :: vs, hc, h => by
    simp only [List.all_cons, Bool.and_eq_true] at hc
    exact ⟨⟨VR0.noY hY hc.1 h.1.1, h.1.2⟩, CR.noYs hY hc.2 h.2⟩

theorem VR1.noY {look : Look} {i : Nat} {Y' : Nat → Option Nat} (hY : ∀ j, j ≠ i → Y' j = G.Y j) {av : AV} {v : Value} (hc : av.noY1 i = true) (h : VR1 G w look av v) : VR1 { G with Y := Y' } w look av v := by
  cases av <;> first
    | (obtain ⟨vs, e, ha⟩ := h; exact ⟨vs, e, CR.noYs hY hc ha⟩)
    | (simp only [VR1] at h ⊢; exact VR0.noY hY hc h)

theorem VR1.noYs {look : Look} {i : Nat} {Y' : Nat → Option Nat} (hY : ∀ j, j ≠ i → Y' j = G.Y j) : ∀ {cs : List AV} {vs : List Value}, cs.all (AV.noY1 i) = true → All2 (VR1 G w look) cs vs → All2 (VR1 { G with Y := Y' } w look) cs vs
  | [], [], _, _ => trivial
  | [], _ :: _, _, h => h.elim
  | _ :: _, [], _, h => h.elim
  | c :: r, v :: vs, hc, h => by
    simp only [List.all_cons, Bool.and_eq_true] at hc
    exact ⟨VR1.noY hY hc.1 h.1, VR1.noYs hY hc.2 h.2⟩

theorem VR.noY {look : Look} {i : Nat} {Y' : Nat → Option Nat} (hY : ∀ j, j ≠ i → Y' j = G.Y j) {av : AV} {v : Value} (hc : av.noY i = true) (h : VR G w look av v) : VR { G with Y := Y' } w look av v := by
  cases av <;> first
    | (obtain ⟨vs, e, ha⟩ := h; exact ⟨vs, e, VR1.noYs hY hc ha⟩)
    | (simp only [VR] at h ⊢; exact VR1.noY hY hc h)

theorem get_noY {i : Nat} {l : List AV} (h : l.all (AV.noY i) = true) (t : Nat) : (get l t).noY i = true := by
  rcases Nat.lt_or_ge t l.length with ht | ht
  · exact List.all_eq_true.1 h _ (List.mem_of_getElem? (getD_of_lt ht AV.undef))
  · have : get l t = .undef := by simp [get, List.getD_eq_getElem?_getD, List.getElem?_eq_none ht]
    rw [this]; rfl

theorem lk_mem {p : Nat} {ob : Ob} : ∀ {l : List (Nat × Ob)}, lk p l = some ob → (p, ob) ∈ l
  | [], h => by simp [lk] at h
  | (q, x) :: r, h => by
    simp only [lk] at h
    split at h
    · rename_i e
      simp at h
      subst e h
      exact .head _
    · exact .tail _ (lk_mem h)

/-- One 'yield' is named otherwise. -/
theorem Rel.setY (h : Rel F w1 S0 G outs σ a w) {i : Nat} (hn : σ.noY i = true) {Y' : Nat → Option Nat} (hY : ∀ j, j ≠ i → Y' j = outs.Y j) : Rel F w1 S0 { G with Y := Y' } { outs with Y := Y' } σ a w := by
  unfold St.noY at hn
  simp only [Bool.and_eq_true] at hn
  obtain ⟨n1, n2, n3⟩ := hn
  have hYG : ∀ j, j ≠ i → Y' j = G.Y j := fun j hj => by rw [h.yeq]; exact hY j hj
  refine ⟨h.below, h.bsz, h.s0, h.snew, h.slt, h.tml, fun t => VR.noY hYG (get_noY n1 t) (h.tm t), ?_, fun p ob hp => ?_, h.inj, rfl⟩
  · have : ∀ (l : List (List AV)) (m : List (Array Value)), (l.all fun l => l.all (AV.noY i)) = true → All2 (fun (l : List AV) (arr : Array Value) => l.length ≤ arr.size ∧ ∀ t, VR G w (lks σ) (get l t) (arr.getD t Go.undef)) l m →
        All2 (fun (l : List AV) (arr : Array Value) => l.length ≤ arr.size ∧ ∀ t, VR { G with Y := Y' } w (lks σ) (get l t) (arr.getD t Go.undef)) l m := by
      intro l
      induction l with
      | nil => intro m _ h; cases m with
        | nil => trivial
        | cons _ _ => exact h.elim
      | cons x r ih => intro m hc h; cases m with
        | nil => exact h.elim
        | cons q m =>
          simp only [List.all_cons, Bool.and_eq_true] at hc
          exact ⟨⟨h.1.1, fun t => VR.noY hYG (get_noY hc.1 t) (h.1.2 t)⟩, ih m hc.2 h.2⟩
    exact this _ _ n2 h.outl
  · have hm := List.all_eq_true.1 n3 _ (lk_mem hp)
    have h1 := h.obj p ob hp
    cases ob with
    | cells fz cs =>
      obtain ⟨b, c, vs, ty, e1, e2, e3, e4, e5⟩ := h1
      exact ⟨b, c, vs, ty, e1, e2, e3, CR.noYs hYG hm e4, e5⟩
    | arr m ver s xs => exact h1

/-- A 'yield' is forgotten. -/
theorem VR0.lessY {look : Look} {Y' : Nat → Option Nat} (hY : ∀ j b, Y' j = some b → G.Y j = some b) : ∀ {av : AV} {v : Value}, VR0 G w look av v → VR0 { G with Y := Y' } w look av v := by
  intro av v h
  cases av with
  | yld j => exact ⟨h.1, fun b hb => h.2 b (hY j b hb)⟩
  | _ => exact h
theorem CR.lessY {look : Look} {Y' : Nat → Option Nat} (hY : ∀ j b, Y' j = some b → G.Y j = some b) {av : AV} {v : Value} (h : CR G w look av v) : CR { G with Y := Y' } w look av v := ⟨VR0.lessY hY h.1, h.2⟩
theorem VR1.lessY {look : Look} {Y' : Nat → Option Nat} (hY : ∀ j b, Y' j = some b → G.Y j = some b) {av : AV} {v : Value} (h : VR1 G w look av v) : VR1 { G with Y := Y' } w look av v := by
  cases av <;> first
    | (obtain ⟨vs, e, ha⟩ := h; exact ⟨vs, e, ha.imp fun _ _ h => CR.lessY hY h⟩)
    | (simp only [VR1] at h ⊢; exact VR0.lessY hY h)
theorem VR.lessY {look : Look} {Y' : Nat → Option Nat} (hY : ∀ j b, Y' j = some b → G.Y j = some b) {av : AV} {v : Value} (h : VR G w look av v) : VR { G with Y := Y' } w look av v := by
  cases av <;> first
    | (obtain ⟨vs, e, ha⟩ := h; exact ⟨vs, e, ha.imp fun _ _ h => VR1.lessY hY h⟩)
    | (simp only [VR] at h ⊢; exact VR1.lessY hY h)
theorem Rel.lessY (h : Rel F w1 S0 G outs σ a w) {Y' : Nat → Option Nat} (hY : ∀ j b, Y' j = some b → outs.Y j = some b) : Rel F w1 S0 { G with Y := Y' } { outs with Y := Y' } σ a w := by
  have hYG : ∀ j b, Y' j = some b → G.Y j = some b := fun j b hb => by rw [h.yeq]; exact hY j b hb
  refine ⟨h.below, h.bsz, h.s0, h.snew, h.slt, h.tml, fun t => VR.lessY hYG (h.tm t), h.outl.imp fun _ _ hl => ⟨hl.1, fun t => VR.lessY hYG (hl.2 t)⟩, fun p ob hp => ?_, h.inj, rfl⟩
  have h1 := h.obj p ob hp
  cases ob with
  | cells fz cs =>
    obtain ⟨b, c, vs, ty, e1, e2, e3, e4, e5⟩ := h1
    exact ⟨b, c, vs, ty, e1, e2, e3, e4.imp fun _ _ h => CR.lessY hYG h, e5⟩
  | arr m ver s xs => exact h1

/-! ### what calls that are entered, and rounds, have to show -/
def frameM (outs : Outs) (d : Nat) : Option (Array Value) := if d < outs.fr.length then outs.fr[outs.fr.length - 1 - d]? else none

/-- From a loop's entry to somewhere within. -/
structure Sub (C0 : Ctx) (outs0 : Outs) (C : Ctx) (outs : Outs) : Prop where
  Y : ∀ j b, outs0.Y j = some b → outs.Y j = some b ∧ C.R j = C0.R j
  fr : ∀ d t, frameM outs0 d = some t → frameM outs d = some t

theorem Sub.refl (C : Ctx) (outs : Outs) : Sub C outs C outs := ⟨fun _ _ h => ⟨h, rfl⟩, fun _ _ h => h⟩
theorem Sub.trans {C C' C'' : Ctx} {outs outs' outs'' : Outs} (h : Sub C outs C' outs') (k : Sub C' outs' C'' outs'') : Sub C outs C'' outs'' :=
  ⟨fun j b hb => by
    obtain ⟨h1, h2⟩ := h.Y j b hb
    obtain ⟨k1, k2⟩ := k.Y j b h1
    exact ⟨k1, k2.trans h2⟩, fun d t hd => k.fr d t (h.fr d t hd)⟩

theorem frameM_push {outs : Outs} {d : Nat} {t x : Array Value} (h : frameM outs d = some t) : frameM (outs.push x) d = some t := by
  unfold frameM at h ⊢
  split at h
  · rename_i hlt
    have : d < (outs.push x).fr.length := by simp [Outs.push]; omega
    rw [if_pos this]
    have e : (outs.push x).fr.length - 1 - d = (outs.fr.length - 1 - d) + 1 := by simp [Outs.push]; omega
    rw [e]
    simpa [Outs.push] using h
  · cases h

theorem frameM_new (outs : Outs) (x : Array Value) : frameM (outs.push x) outs.fr.length = some x := by
  unfold frameM
  rw [if_pos (by simp [Outs.push])]
  simp [Outs.push]

/-- A round, from a call of 'yield' on. -/
def HdOK (P : Program) (S0 : Cells) (i : Nat) (h : Hd) (C0 : Ctx) (outs0 : Outs) (b : Nat) (r : Loop) : Prop :=
  ∀ (C : Ctx) (outs : Outs) (site : Nat) (avs : List AV) (σ : St) (k : AV → St → Prop), Sub C0 outs0 C outs → h site avs σ k →
    ∀ (G : Gh) (a : Act) (w : World) (args : List Value) (R : Ending → World → Prop), RX C S0 G outs σ a w → All2 (VR G w (lks σ)) avs args →
      (∀ av v σ' G' w', k av σ' → Pres σ σ' → RX C S0 G' outs σ' a w' → VR G' w' (lks σ') av v → R (.returned v) w') →
      args.length = r.params.size ∧ RoundIn Fence.wide 0 P b r.fn ((r.params.zip args.toArray).foldl (fun tmps (t, a) => tmps.setIfInBounds t a) r.tmps) r.assign r.body w R

def YsOK (P : Program) (S0 : Cells) (C : Ctx) (outs : Outs) (Y : Ys) : Prop :=
  ∀ i h, ylo i Y = some h → ∃ C0 outs0 b r, Sub C0 outs0 C outs ∧ outs0.Y i = some b ∧ C0.R i = some r ∧ HdOK P S0 i h C0 outs0 b r

theorem YsOK.sub {C C' : Ctx} {outs outs' : Outs} {Y : Ys} (h : YsOK P S0 C outs Y) (hs : Sub C outs C' outs') : YsOK P S0 C' outs' Y := fun i hd hy => by
  obtain ⟨C0, outs0, b, r, h1, h2⟩ := h i hd hy
  exact ⟨C0, outs0, b, r, h1.trans hs, h2⟩

theorem Sub.push {C C' : Ctx} {outs : Outs} (hR : ∀ j, C'.R j = C.R j) (x : Array Value) : Sub C outs C' (outs.push x) := ⟨fun j b h => ⟨h, hR j⟩, fun d t h => frameM_push h⟩

def InlOK (P : Program) (inl : Inl) : Prop :=
  ∀ (C : Ctx) (S0 : Cells) (outs : Outs) (Y : Ys) (site f : Nat) (avs : List AV) (σ : St) (k : AV → St → Prop), inl Y site f avs σ k →
    (∃ fn, P.funcs[f]? = some fn ∧ fn.body.isSome = true) ∧
    ∀ (G : Gh) (a : Act) (w : World) (args : List Value) (R : Ending → World → Prop), YsOK P S0 C (outs.push a.tmps) Y → RX C S0 G outs σ a w → All2 (VR G w (lks σ)) avs args →
      (∀ av v σ' G' w', k av σ' → Pres σ σ' → RX C S0 G' outs σ' a w' → VR G' w' (lks σ') av v → R (.returned v) w') → Calls P f args.toArray w R

theorem frz_lps : ∀ (l : List Nat) (σ : St), (Pi.frz l σ).lps = σ.lps
  | [], σ => rfl
  | o :: r, σ => (frz_lps r _).trans (by unfold Pi.frz1; split <;> rfl)

theorem RX.frz (h : RX C S0 G outs σ a w) (l : List Nat) : ∃ G', RX C S0 G' outs (Pi.frz l σ) a w := by
  obtain ⟨F, w1, hR, hc⟩ := h.use
  obtain ⟨G', hR'⟩ := Rel.frz l hR
  exact ⟨G', hc _ _ _ _ hR' rfl (frz_lps l σ)⟩

theorem run_yield_call {o : Oper} {c : Call} {fv : Operand} {b : Nat} {r r' : Loop} (ho : o.op = .call c) (hcal : c.callee = .value fv) (hv : a.eval fv = .func (.yield b) #[] #[]) (hb : w.heap[b]? = some (.loop r'))
    (hr : r'.fn = r.fn ∧ r'.params = r.params ∧ r'.tmps = r.tmps ∧ r'.assign = r.assign ∧ r'.body = r.body) (hs : (c.args.toList.map a.eval).length = r.params.size) :
    (execOp a.eval o).run P w = .ok (.round b r.fn ((r.params.zip (c.args.toList.map a.eval).toArray).foldl (fun tmps (t, a) => tmps.setIfInBounds t a) r.tmps) r.assign r.body) w := by
  obtain ⟨h1, h2, h3, h4, h5⟩ := hr
  have hy := run_yield (P := P) (args := (c.args.toList.map a.eval).toArray) hb (by rw [h2]; simpa using hs)
  rw [h1, h2, h3, h4, h5] at hy
  have e : (c.args.toList.map a.eval).toArray = c.args.map a.eval := by apply Array.ext'; simp
  rw [e] at hy ⊢
  unfold execOp
  simp only [ho, resolve, hcal, hv, Sem.run_bind, Sem.run_pure, Result.andThen_ok, Deferred.ofValue, invoke]
  simpa [go_sem] using hy
end
end Go.Pi
end

section
namespace Go.Pi
open Go.RowKit
set_option linter.unusedSimpArgs false
set_option linter.unusedVariables false

section
variable {P : Program} {B : Nat → Prop} {w0 : World} {S0 : Cells} {G G' : Gh} {outs : Outs} {σ : St} {a : Act} {w w' : World} {o : Oper} {look : Look}
variable {K : Act → World → Prop} {Q : Exit → Act → World → Prop} {E : Env} {own : List Nat} {inl : Inl} {Y : Ys} {C : Ctx} {ro : Option Nat} {n : Nat}

theorem put_defers (a : Act) (dst : Option Tmp) (v : Value) : (a.put dst v).defers = a.defers := by cases dst <;> rfl

theorem caps_vr {caps : List Value} : ∀ {l : List Nat}, All2 (fun o v => PtrR G look o 0 v) l caps → All2 (VR G w look) (l.map fun p => .ptr p 0) caps := by
  induction caps with
  | nil => intro l h; cases l with
    | nil => trivial
    | cons _ _ => exact h.elim
  | cons v r ih => intro l h; cases l with
    | nil => exact h.elim
    | cons o l => exact ⟨h.1, ih h.2⟩

theorem Pres.eff (σ : St) (dst : Option Tmp) (av : AV) (upd : List (Nat × Ob)) : Pres σ (appEff dst σ av upd) := by
  have h1 : ∀ (upd : List (Nat × Ob)) (s : List (Nat × Ob)) (p : Nat), (∃ u ∈ upd, u.1 = p) ∨ lk p (upd.foldl (fun s u => ups u.1 u.2 s) s) = lk p s := by
    intro upd
    induction upd with
    | nil => intro s p; exact .inr rfl
    | cons u r ih =>
      intro s p
      rcases ih (ups u.1 u.2 s) p with ⟨v, hv, e⟩ | h2
      · exact .inl ⟨v, .tail _ hv, e⟩
      · by_cases e : p = u.1
        · exact .inl ⟨u, .head _, e.symm⟩
        · refine .inr ?_
          rw [List.foldl_cons, h2, lk_ups, if_neg e]
  have hob : ∀ p, p ∈ (upd.map (·.1) ++ σ.dob) ∨ ∀ ob, lk p (upd.foldl (fun s u => ups u.1 u.2 s) σ.sto) = some ob → lk p σ.sto = some ob := by
    intro p
    rcases h1 upd σ.sto p with ⟨u, hu, e⟩ | h2
    · exact .inl (List.mem_append_left _ (List.mem_map.2 ⟨u, hu, e⟩))
    · exact .inr fun ob h => by rw [← h2]; exact h
  cases dst with
  | none => exact ⟨fun _ => .inr (.inl rfl), fun _ h => h, hob, fun p hp => List.mem_append_right _ hp, rfl, rfl⟩
  | some d =>
    refine ⟨fun t => ?_, fun t ht => .tail _ ht, hob, fun p hp => List.mem_append_right _ hp, rfl, by simp [appEff]⟩
    by_cases h : t = d
    · exact .inl (by simp [appEff, h])
    · refine .inr (.inl ?_)
      show get (σ.tm.set d av) t = _
      rw [get_set, if_neg (fun e => h e.1)]

theorem op_sliceArr (h : Rel B w0 S0 G outs σ a w) {q : AV × Nat × Ob} (he : sliceArr P σ o = some q) :
    ∃ u G', Done P o a w u w ∧ Rel B w0 S0 G' outs (appEff o.dst σ q.1 [q.2]) (a.put o.dst u) w := by
  unfold sliceArr at he
  split at he
  · rename_i t x ho
    split at he
    · rename_i m e p off hu hx
      split at he
      · rename_i fz cs hp
        split at he
        · rename_i hcond
          obtain ⟨hel, hpos, hm0, hm, hfit⟩ := hcond
          split at he
          · rename_i xs hxs
            obtain rfl := Option.some.inj he
            obtain ⟨hinf, hsz⟩ := elOk_parts hel
            have hv := ev_rel h x
            rw [hx] at hv
            obtain ⟨_, b, c, hM, hv⟩ := hv
            obtain ⟨b', c', vs, ty, hM', hB, hh, hcs, hS⟩ := h.obj p _ hp
            rw [hM] at hM'
            simp only [Option.some.injEq, Prod.mk.injEq] at hM'
            obtain ⟨rfl, rfl⟩ := hM'
            have hlt : b < w.heap.size := (Array.getElem?_eq_some_iff.1 hh).1
            have hvl := hcs.length
            simp only [Array.length_toList] at hvl
            obtain ⟨hxl, hdn⟩ := decN_rel ((hcs.drop off).take (m * szOf P e)) hxs
            obtain ⟨S', hS'⟩ : ∃ S' : Cells, S' = fun b' o' => G.S b' o' ∨ (b' = b ∧ off ≤ o' ∧ o' < off + m * szOf P e) := ⟨_, rfl⟩
            have hk : Keeps G.S w S' w := fun b' o' hs => ⟨by rw [hS']; exact .inl hs, rfl⟩
            have hx0 : Ext G w (lks σ) { G with S := S' } w (fun q => lk q (ups p (.cells true cs) σ.sto)) :=
              Ext.upd1 (G' := { G with S := S' }) rfl hk (fun _ _ _ _ => rfl) (by rw [hp]; exact ⟨rfl, true, cs, rfl⟩)
            have hR := h.upd1 (G' := { G with S := S' }) rfl p (.cells true cs) σ.dt (p :: σ.dob) hk (fun _ _ _ _ => rfl)
              (fun p' ob' b' c' e' hp' hb' => ⟨rfl, fun off' hs => by
                rw [hS'] at hs
                rcases hs with hs | ⟨rfl, _⟩
                · exact hs
                · exact (e' (h.inj p' p ob' _ b' c' c hp' hp hb' hM)).elim⟩)
              (by rw [hp]; exact ⟨rfl, true, cs, rfl⟩)
              ⟨b, c, vs, ty, hM, hB, hh, hcs.imp fun _ _ hc => CR.ext hx0 hc, fun e' => by cases e'⟩
              (fun p' ob' b' c' c3 e' hp' hb' hb3 => e' (h.inj p' p ob' _ b' c' c3 hp' hp hb' hb3)) h.below h.bsz
              (fun b' off' hs => by
                rw [hS'] at hs
                rcases hs with hs | ⟨rfl, _⟩
                · exact .inl hs
                · exact .inr hB)
              (fun b' off' hs => by
                rw [hS'] at hs
                rcases hs with hs | ⟨rfl, _⟩
                · exact h.slt _ _ hs
                · exact hlt)
            refine ⟨.slice (some ⟨b, off, none⟩) m m, _, .inl ?_, hR.put o.dst (av := .sl false (sch P e) xs) ⟨?_, fun e' => by cases e'⟩⟩
            · unfold execOp
              have hev : a.eval x = .pointer (some ⟨b, off, none⟩) := hv
              simp only [ho, hev, Option.map_none, Instr.sliceAt, Instr.sureAddr, Sem.run_bind, run_underlying hu w, Result.andThen_ok, Sem.run_pure, Instr.sliceBounds, size_run hinf w]
              have hm1 : m ≠ 0 := by omega
              simp [hm1, addr_add]
            · refine ⟨_, m, by rw [hxl], by rw [hxl]; exact Nat.le_refl _, by omega, fun _ => ⟨b, off, rfl, fun i y hy => ?_⟩⟩
              have hi : i < m := by
                rw [← hxl]
                exact (List.getElem?_eq_some_iff.1 hy).1
              refine ⟨_, DR.mono hk (hdn.2 i y hy), fun j u hu' => ?_⟩
              rw [List.getElem?_take] at hu'
              split at hu'
              · rename_i hj
                rw [List.getElem?_drop, List.getElem?_take] at hu'
                split at hu'
                · rename_i hj2
                  rw [List.getElem?_drop] at hu'
                  refine ⟨by rw [hS']; exact .inr ⟨rfl, by omega, by omega⟩, ?_⟩
                  rw [cell_of_block hh]
                  simpa [Nat.add_assoc] using hu'
                · cases hu'
              · cases hu'
          · cases he
        · cases he
      · cases he
    · cases he
  · cases he

theorem cap_nil {c : Call} (hc : c.callee = .builtin .cap) (ho : o.op = .call c) {t el : TypeId} {x : Operand} (ht : c.argTypes[0]? = some t) (hx : c.args[0]? = some x) (hu : P.underlying t = some (.slice el)) (hv : a.eval x = .slice none 0 0) :
    (execOp a.eval o).run P w = .ok (.value (.int .i64 0)) w := by
  have hargs : (c.args.map a.eval)[0]? = some (a.eval x) := by simp [hx]
  have hr : (Builtin.cap_ c.argTypes o.type (c.args.map a.eval)).run P w = .ok (.int .i64 0) w := by
    unfold Builtin.cap_
    simp only [ht, hargs, hv, Sem.run_bind, run_underlying hu w, Result.andThen_ok]
    rfl
  unfold execOp
  simp [ho, hc, resolve, invoke, builtin, hr]

theorem op_zeros (h : Rel B w0 S0 G outs σ a w) {t tn el : TypeId} {kq kn : IntKind} {x y : Operand} (ho : o.op = .call { callee := .builtin .append, args := #[x, y], argTypes := #[t, tn] }) (ht : P.underlying t = some (.slice el)) (htn : P.underlying tn = some (.int kn)) {n : Int}
    (hx : ev σ.tm x = .nils) (hy : ev σ.tm y = .int kq n) {zs : List AV} (hz : zeroCs P el = some zs) {z : (sch P el).D} (hd : (sch P el).dec zs = some (z, [])) (hel : elOk P el = true) (hpos : 0 < szOf P el) (hby : 0 < bytesOfT P el) {site : Nat} (hsite : lk site σ.sto = none)
    (hn : 0 < n) (hroom : roomOk n.toNat (bytesOfT P el) = true) :
    ∃ u G' w', Done P o a w u w' ∧ Rel B w0 S0 G' outs (appEff o.dst σ (.ref site 0) [(site, .arr .uniq 0 (sch P el) (List.replicate n.toNat z))]) (a.put o.dst u) w' := by
  simp only [decide_eq_true_eq, roomOk] at hroom
  obtain ⟨hinf, hsz⟩ := elOk_parts hel
  obtain ⟨i, zv, hi, hiz, hzr, hzd⟩ := zero_dr hz hd
  have hbi : bytesOfT P el = i.bytes := by simp [bytesOfT, hi]
  have hsi : szOf P el = i.size := by simp [szOf, hi]
  have hle : n.toNat ≤ n.toNat * bytesOfT P el := Nat.le_mul_of_pos_right _ hby
  have hxv : a.eval x = .slice none 0 0 := by have := ev_rel h x; rw [hx] at this; exact this
  have hyv := ev_rel h y; rw [hy] at hyv; have hyv := hyv.int
  have hr := Lib.run_append_nil_zeros (P := P) w t tn o.type el i zv kq kn ht htn hi hiz n.toNat (by omega) (by omega) (by omega) (by rw [← hbi]; omega)
  rw [show ((n.toNat : Nat) : Int) = n by omega, ← hyv] at hr
  have hzl : zv.cells.size = (sch P el).size := by have := (hzd G.S w).length; simpa using this
  have hmade := (madeCells_drn (hzd G.S w) (show 0 < (sch P el).size by omega) n.toNat).drew
  have he : Builtin.zeroCells zv.cells n.toNat = madeCells zv.cells (n.toNat * (sch P el).size) := by
    rw [← hzl]; rfl
  rw [he] at hr
  have hge := grownCap_ge w n.toNat 0 el
  have hcm := grownCap_le_maxLen w n.toNat 0 el (by simp only [maxLen]; omega)
  have hR := h.drew.moveOb (site := site) (k := 0) (.arr .uniq 0 (sch P el) (List.replicate n.toNat z)) (madeCells zv.cells (n.toNat * (sch P el).size) ++ Builtin.zeroCells zv.cells (grownCap w n.toNat 0 el - n.toNat)) el (grownCap w n.toNat 0 el) σ.dt (site :: σ.dob) (by rw [hsite]; trivial)
    (fun hk look' => arr_new (w := w.drew) (k := 0) (m := .uniq) (ver := 0) (xs := List.replicate n.toNat z) (ty := el) (s := sch P el) h.fresh h.slt (by omega) rfl (by
      simp only [Array.size_append, size_madeCells, size_zeroCells, hzl, ← Nat.add_mul]
      congr 1
      omega) (by simpa using hge) (by simp only [maxLen] at hcm; omega) (by have := drn_take hmade (Builtin.zeroCells zv.cells (grownCap w n.toNat 0 el - n.toNat)).toList; simpa using this) rfl hk look')
  refine ⟨_, _, _, app_done ho hxv hr, hR.put o.dst (av := .ref site 0) ?_⟩
  exact refV_ref (n := n.toNat) (xs := List.replicate n.toNat z) (s := sch P el) (m := .uniq) trivial (by simp [lks, lk_ups]) rfl (by simp) (by simp [RefV])

theorem op_spec (h : Rel B w0 S0 G outs σ a w) {site : Nat} {q : Bool × AV × List (Nat × Ob)} (he : specF P site σ o = some q) (hq : q.1 = true) :
    ∃ u G' w', Done P o a w u w' ∧ Rel B w0 S0 G' outs (appEff o.dst σ q.2.1 q.2.2) (a.put o.dst u) w' := by
  unfold specF at he
  split at he
  · rename_i t x hi ho
    split at he
    · rename_i e k n hel hn
      split at he
      · rename_i hn0
        subst hn0
        have hu : P.underlying t = some (.slice e) := by
          unfold elemT at hel
          split at hel
          · rename_i e' hu; rw [hu]; simp at hel; rw [hel]
          · cases hel
        have hhi : a.eval hi = .int k 0 := by have := ev_rel h hi; rw [hn] at this; exact this
        have key : ∀ (ad : Option Addr) (len cap : Nat), elOk P e = true → a.eval x = .slice ad len cap → (execOp a.eval o).run P w = .ok (.value (.slice (if cap = 0 then ad else ad.map (·.add 0)) 0 cap)) w := by
          intro ad len cap hok hx
          obtain ⟨hinf, hsz⟩ := elOk_parts hok
          have hb := bounds_run (P := P) (w := w) (isSl := true) (len := 0) (cap := cap) (low := none) (high := some (.int k 0)) (l := 0) (h := 0) (.inl ⟨rfl, rfl⟩) (.inr ⟨k, rfl⟩) (by omega) (by omega) (by omega) (by omega)
          have hb : (Instr.sliceBounds true len cap none (some (.int k 0)) none).run P w = .ok (0, 0, cap) w := by
            have e0 : (Instr.sliceBounds true len cap none (some (.int k 0)) none) = (Instr.sliceBounds true 0 cap none (some (.int k 0)) none) := rfl
            rw [e0]; exact hb
          unfold execOp
          simp only [ho, hx, hhi, Option.map_none, Option.map_some, Instr.sliceAt, Instr.slice, Sem.run_bind, run_underlying hu w, hb, Result.andThen_ok, size_run hinf w, Sem.run_pure]
          simp
        split at he
        · rename_i hx
          split at he
          · rename_i hok
            obtain rfl := Option.some.inj he
            have hv : a.eval x = .slice none 0 0 := by have := ev_rel h x; rw [hx] at this; exact this
            refine ⟨.slice none 0 0, G, w, .inl ?_, h.put o.dst (av := .nils) rfl⟩
            rw [key none 0 0 hok hv]
            rfl
          · cases he
        · rename_i ob ver hx
          split at he
          · rename_i ver' s xs hob
            split at he
            · rename_i hc
              obtain ⟨hver, hok⟩ := hc
              obtain rfl := Option.some.inj he
              subst hver
              have hv := ev_rel h x
              rw [hx] at hv
              obtain ⟨_, m2, ver2, s2, xs2, hob2, hmf2, _, hrv⟩ := hv
              have hob2 : lk ob σ.sto = some (.arr m2 ver2 s2 xs2) := hob2
              rw [hob] at hob2
              simp only [Option.some.injEq, Ob.arr.injEq] at hob2
              obtain ⟨rfl, rfl, rfl, e2⟩ := hob2
              have e3 := eq_of_heq e2
              subst e3
              have hrv := hrv rfl
              have hO := h.obj ob _ hob
              have hR := h.upd1 (G' := G) rfl ob (.arr .uniq (ver + 1) s []) σ.dt (ob :: σ.dob) (Keeps.refl _ _) (fun _ _ _ _ => rfl) (fun _ _ _ _ _ _ _ => ⟨rfl, fun _ hs => hs⟩)
                (by rw [hob]; exact ⟨.uniq, ver + 1, [], rfl, rfl, by omega, fun e => (e rfl).elim, fun e => by omega⟩)
                ⟨hO.1, by
                  have hO2 := hO.2
                  revert hO2
                  cases G.M ob with
                  | none => intro _; exact ⟨rfl, rfl⟩
                  | some q =>
                    obtain ⟨b, cap⟩ := q
                    intro hO2
                    obtain ⟨a1, vs, ty, a2, a3, a4, a5, a6, a7, a8, a9⟩ := hO2
                    exact ⟨a1, vs, ty, a2, a3, by simp, a5, fun k e => (by cases e), fun i y hy => (by simp at hy), fun off hs => (by have := (a8 off hs).1; cases this), fun e => (by cases e)⟩⟩
                (fun p' ob' b' c' c3 e' hp' hb' hb3 => e' (h.inj p' ob ob' _ b' c' c3 hp' hob hb' hb3)) h.below h.bsz (fun _ _ hs => .inl hs) h.slt
              cases hM : G.M ob with
              | none =>
                rw [hM] at hrv
                obtain ⟨_, hv⟩ := hrv
                refine ⟨.slice none 0 0, G, w, .inl ?_, hR.put o.dst (av := .ref ob (ver + 1)) ?_⟩
                · rw [key none 0 0 hok hv]; rfl
                · exact refV_ref (n := 0) (xs := ([] : List s.D)) (s := s) (m := .uniq) trivial (by simp [lks, lk_ups]) rfl rfl (by simp [RefV, hM])
              | some q =>
                obtain ⟨b, cap⟩ := q
                rw [hM] at hrv
                simp only [RefV] at hrv
                refine ⟨.slice (some ⟨b, 0, none⟩) 0 cap, G, w, .inl ?_, hR.put o.dst (av := .ref ob (ver + 1)) ?_⟩
                · rw [key _ _ cap hok hrv]
                  congr 2
                  split <;> simp [addr_add]
                · exact refV_ref (n := 0) (xs := ([] : List s.D)) (s := s) (m := .uniq) trivial (by simp [lks, lk_ups]) rfl rfl (by simp [RefV, hM])
            · cases he
          · cases he
        · cases he
      · cases he
    · cases he
  · rename_i c ho
    split at he
    · rename_i hc
      split at he
      · rename_i t x ht hx
        split at he
        · rename_i e hel hn
          obtain rfl := Option.some.inj he
          have hu : P.underlying t = some (.slice e) := by
            unfold elemT at hel
            split at hel
            · rename_i e' hu; rw [hu]; simp at hel; rw [hel]
            · cases hel
          have hv : a.eval x = .slice none 0 0 := by have := ev_rel h x; rw [hn] at this; exact this
          exact ⟨.int .i64 0, G, w, .inl (cap_nil hc ho ht hx hu hv), h.put o.dst (av := .int .i64 0) rfl⟩
        · cases he
      · cases he
    · rename_i hc
      split at he
      · rename_i t t' x y ht hx
        split at he
        · rename_i k n hxe hye
          split at he
          · rename_i e kn hel hu'
            split at he
            · rename_i z hzz
              split at he
              · rename_i hcond
                obtain ⟨hok, hpos, hby, hsite⟩ := hcond
                obtain rfl := Option.some.inj he
                simp only [Bool.and_eq_true, decide_eq_true_eq] at hq
                have hu : P.underlying t = some (.slice e) := by
                  unfold elemT at hel
                  split at hel
                  · rename_i e' hu; rw [hu]; simp at hel; rw [hel]
                  · cases hel
                have hcc : c = { callee := .builtin .append, args := #[x, y], argTypes := #[t, t'] } := by
                  obtain ⟨c1, c2, c3⟩ := c
                  simp only at hc ht hx
                  subst hc
                  congr
                  · exact Array.ext' (by simpa using hx)
                  · exact Array.ext' (by simpa using ht)
                obtain ⟨zs, hzs, hzd⟩ := Option.bind_eq_some_iff.1 hzz
                exact op_zeros h (by rw [ho, hcc]) hu hu' hxe hye hzs hzd hok hpos hby hsite hq.1 hq.2
              · cases he
            · cases he
          · cases he
        · cases he
      · cases he
    · cases he
  · cases he

theorem stepO_sound (hP : ProgOK P) (hE : EnvOK P E) (hI : InlOK P inl) (hY : YsOK P S0 C outs Y) {site : Nat} {k : St → Prop} (h : RX C S0 G outs σ a w) (hs : stepO P E own (inl Y) Y site o σ k)
    (hk : ∀ v σ' G' w', Pres σ σ' → RX C S0 G' outs σ' (a.put o.dst v) w' → k σ' → K (a.put o.dst v) w') : o.wpIn (Fw ro) n P a w K Q := by
  have hnd : ∀ c, o.op ≠ .defer c := fun c e => by simp [stepO, specF, opF, sliceArr, frzFor, e] at hs
  unfold stepO at hs
  split at hs
  · rename_i q hq
    obtain ⟨F, w1, hR0, hclose⟩ := h.use
    obtain ⟨hc, hs⟩ := br_no hs
    obtain ⟨u, G', w', hd, hR⟩ := op_spec hR0 hq hc
    refine wpIn_of_wp hnd ?_
    rcases hd with hd | ⟨hd, rfl⟩
    · unfold Oper.wp; rw [hd]; exact hk u _ G' w' (Pres.eff σ o.dst q.2.1 q.2.2) (hclose _ _ _ _ hR (put_defers _ _ _) rfl) hs
    · unfold Oper.wp; rw [hd]; exact hk Go.undef _ G' w' (Pres.eff σ o.dst q.2.1 q.2.2) (hclose _ _ _ _ hR (put_defers _ _ _) rfl) hs
  obtain ⟨l, hl⟩ := frzFor_eq E σ o
  rw [hl] at hs
  obtain ⟨G1, h1⟩ := h.frz l
  have hpr := Pres.frz l σ
  revert h1 hpr hs
  generalize Pi.frz l σ = σ1
  intro hs h1 hpr
  obtain ⟨F, w1, hR0, hclose⟩ := h1.use
  simp only at hs
  split at hs
  · rename_i e he
    obtain ⟨hc, hs⟩ := br_no hs
    obtain ⟨hpre, hs⟩ := withPre_iff.1 hs
    exact wpIn_of_wp hnd (opF_sound hP hE hR0 he hc hpre fun v w' G' hR hroom => hk v _ G' w' (hpr.trans (Pres.eff σ1 o.dst e.val e.upd)) (hclose _ _ _ _ hR (put_defers _ _ _) rfl) (br_true hroom hs))
  · rename_i hnone
    split at hs
    · rename_i c ho
      split at hs
      · rename_i fv hcal
        split at hs
        · rename_i f cap hf
          obtain ⟨⟨fn, hfn, hb⟩, hI⟩ := hI C S0 outs Y site f _ σ1 _ hs
          have hv := ev_rel hR0 fv
          rw [hf] at hv
          obtain ⟨caps, hv, hcaps⟩ := hv
          have hr := enter_run (w := w) hP ho hcal hv hfn hb
          refine wpIn_of_wp hnd (wp_enter hr (hI G1 a w _ _ (hY.sub (Sub.push (fun _ => rfl) _)) h1 ((evs_rel hR0 c.args.toList).append (caps_vr hcaps)) fun av v σ' G' w' hkk hp hR hV => ?_))
          obtain ⟨F', w1', hR2, hclose2⟩ := hR.use
          exact hk v _ G' w' (hpr.trans (hp.trans (Pres.put σ' o.dst av))) (hclose2 _ _ _ _ (hR2.put o.dst hV) (put_defers _ _ _) rfl) hkk
        · rename_i i hf
          unfold ylk at hs
          cases hyl : ylo i Y with
          | none => rw [hyl] at hs; exact hs.elim
          | some hd =>
            rw [hyl] at hs
            obtain ⟨C0, outs0, b, r, hsub, e1, e2, hH⟩ := hY i hd hyl
            obtain ⟨e1, e3⟩ := hsub.Y i b e1
            rw [← e3] at e2
            obtain ⟨hsz, hround⟩ := hH C outs site _ σ1 _ hsub hs G1 a w _ (fun
              | .returned v, w'' => K (a.put o.dst v) w''
              | .panicked chain, w'' => Q (.panic chain) a w''
              | .outgrown, _ => LetsOut Q) h1 (evs_rel hR0 c.args.toList) (fun av v σ' G' w' hkk hp hR hV => by
                obtain ⟨F', w1', hR2, hclose2⟩ := hR.use
                exact hk v _ G' w' (hpr.trans (hp.trans (Pres.put σ' o.dst av))) (hclose2 _ _ _ _ (hR2.put o.dst hV) (put_defers _ _ _) rfl) hkk)
            obtain ⟨F', w1', hR2, hH2⟩ := h1
            obtain ⟨s, hls⟩ := hH2.ydom i b e1
            obtain ⟨b', r', e1', e2', hFb, hBb, hbk⟩ := hH2.lps i s hls
            rw [e1] at e1'
            rw [e2] at e2'
            simp only [Option.some.injEq] at e1' e2'
            subst e1' e2'
            have hv := ev_rel hR2 fv
            rw [hf] at hv
            have hv2 := hv.2 b (by rw [hR2.yeq]; exact e1)
            have hrun := run_yield_call (P := P) (r := r) ho hcal hv2 ((hR2.below.block b hFb).trans hbk) (by cases s <;> exact ⟨rfl, rfl, rfl, rfl, rfl⟩) hsz
            refine ⟨fun _ _ => trivial, ?_⟩
            rw [Oper.semAt_eq _ _ _ hnd, hrun]
            exact ⟨fun e => (by cases e), ⟨trivial, fun c cs _ => hround.2 c cs (fun _ e => by cases e)⟩⟩
        · exact hs.elim
      · exact hs.elim
    · split at hs
      · rename_i q hq
        obtain ⟨u, G', hd, hR⟩ := op_sliceArr hR0 hq
        refine wpIn_of_wp hnd ?_
        rcases hd with hd | ⟨hd, rfl⟩
        · unfold Oper.wp; rw [hd]; exact hk u _ G' w (hpr.trans (Pres.eff σ1 o.dst q.1 [q.2])) (hclose _ _ _ _ hR (put_defers _ _ _) rfl) hs
        · unfold Oper.wp; rw [hd]; exact hk Go.undef _ G' w (hpr.trans (Pres.eff σ1 o.dst q.1 [q.2])) (hclose _ _ _ _ hR (put_defers _ _ _) rfl) hs
      · exact hs.elim

/-! ### guards -/
theorem get_lt {tm : List AV} {d : Nat} {v : AV} (h : get tm d = v) (hv : v ≠ .undef) : d < tm.length := by
  rcases Nat.lt_or_ge d tm.length with h1 | h1
  · exact h1
  · exfalso
    apply hv
    rw [← h]
    simp [get, List.getD_eq_getElem?_getD, List.getElem?_eq_none h1]

theorem set_same {tm : List AV} {d : Nat} {v : AV} (h : get tm d = v) : tm.set d v = tm := by
  apply List.ext_getElem?
  intro i
  rw [List.getElem?_set]
  split
  · rename_i e
    subst e
    split
    · rename_i hlt
      rw [← h]
      exact (getD_of_lt hlt _).symm
    · rename_i hlt
      rw [List.getElem?_eq_none (Nat.le_of_not_lt hlt)]
  · rfl

theorem guard_bool (h : Rel B w0 S0 G outs σ a w) {ops : Array Oper} {j d : Nat} (hj : (ops[j]?).bind (·.dst) = some d) {b : Bool} (hb : get σ.tm d = .bool b) : yielded ops a.tmps j = some b := by
  have hlt := get_lt hb (by simp)
  have hv := h.tm d
  rw [hb] at hv
  have hv : a.tmps.getD d Go.undef = .bool b := hv
  have hlt2 : d < a.tmps.size := Nat.lt_of_lt_of_le hlt h.tml
  have : a.tmps[d]? = some (.bool b) := by
    rw [Array.getElem?_eq_getElem hlt2]
    simpa [Array.getD, hlt2] using hv
  simp [yielded, hj, this]

theorem guard_skip (h : Rel B w0 S0 G outs σ a w) {ops : Array Oper} {j d : Nat} (hj : (ops[j]?).bind (·.dst) = some d) (hb : get σ.tm d = .skip) : yielded ops a.tmps j = none := by
  have hlt := get_lt hb (by simp)
  have hv := h.tm d
  rw [hb] at hv
  have hv : a.tmps.getD d Go.undef = Go.undef := hv
  have hlt2 : d < a.tmps.size := Nat.lt_of_lt_of_le hlt h.tml
  have : a.tmps[d]? = some Go.undef := by
    rw [Array.getElem?_eq_getElem hlt2]
    simpa [Array.getD, hlt2] using hv
  simp [yielded, hj, this, Go.undef]


theorem goOps_sound (hP : ProgOK P) (hE : EnvOK P E) (hI : InlOK P inl) (hY : YsOK P S0 C outs Y) {path rid : Nat} {ops : Array Oper} {k : St → Prop} :
    ∀ (r : List Oper) (i : Nat) {G : Gh} {σ : St} {a : Act} {w : World}, r = ops.toList.drop i → RX C S0 G outs σ a w → goOps P E own (inl Y) Y path rid ops r i σ k →
      (∀ σ' G' a' w', Pres σ σ' → RX C S0 G' outs σ' a' w' → k σ' → Q .normal a' w') → wpOpsIn (Fw ro) n P ops Q (List.range' i r.length) a w
  | [], i, G, σ, a, w, hr, h, hs, hk => hk σ G a w (Pres.refl σ) h hs
  | o :: r, i, G, σ, a, w, hr, h, hs, hk => by
    have hi : ops[i]? = some o := by
      have : (ops.toList.drop i)[0]? = some o := by rw [← hr]; rfl
      simpa using this
    have hr' : r = ops.toList.drop (i + 1) := by
      have : (ops.toList.drop i).drop 1 = r := by rw [← hr]; rfl
      rw [← this, List.drop_drop]
    have step : ∀ {σ1 : St}, RX C S0 G outs σ1 a w → Pres σ σ1 → stepO P E own (inl Y) Y (siteOf path rid i) o σ1 (fun σ' => goOps P E own (inl Y) Y path rid ops r (i + 1) σ' k) → o.wpIn (Fw ro) n P a w (wpOpsIn (Fw ro) n P ops Q (List.range' (i + 1) r.length)) Q := by
      intro σ1 h1 hp1 hs1
      refine stepO_sound hP hE hI hY h1 hs1 fun v σ' G' w' hp hR hk' => ?_
      exact goOps_sound hP hE hI hY r (i + 1) hr' hR hk' fun σ'' G'' a'' w'' hp' => hk σ'' G'' a'' w'' ((hp1.trans hp).trans hp')
    have skip : ∀ {σ1 : St}, RX C S0 G outs σ1 a w → Pres σ σ1 → goOps P E own (inl Y) Y path rid ops r (i + 1) (appEff o.dst σ1 .skip []) k → (∀ f, o.about P w a.eval = some f → (Fw ro).fn f) ∧ wpOpsIn (Fw ro) n P ops Q (List.range' (i + 1) r.length) (a.put o.dst undef) w := by
      intro σ1 h1 hp1 hs1
      obtain ⟨F, w1, hR0, hclose⟩ := h1.use
      refine ⟨fun _ _ => trivial, ?_⟩
      exact goOps_sound hP hE hI hY r (i + 1) hr' (hclose _ _ _ _ (hR0.put o.dst (av := .skip) rfl) (put_defers _ _ _) rfl) hs1 fun σ'' G'' a'' w'' hp' => hk σ'' G'' a'' w'' ((hp1.trans (Pres.put σ1 o.dst .skip)).trans hp')
    rw [List.length_cons, List.range'_succ]
    unfold wpOpsIn
    simp only [hi]
    unfold goOps at hs
    cases hg : o.guard with
    | none =>
      rw [hg] at hs
      simp only [Region.wanted, hg, if_true]
      exact step h (Pres.refl σ) hs
    | some gw =>
      obtain ⟨j, want⟩ := gw
      rw [hg] at hs
      simp only at hs
      split at hs
      · exact hs.elim
      · rename_i d hj
        split at hs
        · rename_i b hb
          obtain ⟨F, w1, hR0, _⟩ := h.use
          have hy := guard_bool hR0 hj hb
          have hset : ∀ c, b = c → ({ σ with tm := σ.tm.set d (.bool c) } : St) = σ := fun c e => by rw [set_same (by rw [hb, e])]
          have hwant : Region.wanted o (yielded ops a.tmps) = (b == want) := by simp [Region.wanted, hg, hy]
          rw [hwant]
          cases want with
          | true =>
            simp only at hs
            cases b with
            | true => have hs := br_true rfl hs; rw [hset true rfl] at hs; simp only [beq_self_eq_true, if_true]; exact step h (Pres.refl σ) hs
            | false => have hs := br_false rfl hs; rw [hset false rfl] at hs; simp only [show (false == true) = false from rfl, Bool.false_eq_true, if_false]; exact skip h (Pres.refl σ) hs
          | false =>
            simp only at hs
            cases b with
            | true => have hs := br_true rfl hs; rw [hset true rfl] at hs; simp only [show (true == false) = false from rfl, Bool.false_eq_true, if_false]; exact skip h (Pres.refl σ) hs
            | false => have hs := br_false rfl hs; rw [hset false rfl] at hs; simp only [beq_self_eq_true, if_true]; exact step h (Pres.refl σ) hs
        · rename_i hb
          obtain ⟨F, w1, hR0, _⟩ := h.use
          have hy := guard_skip hR0 hj hb
          have hwant : Region.wanted o (yielded ops a.tmps) = false := by simp [Region.wanted, hg, hy]
          rw [hwant]
          simp only [Bool.false_eq_true, if_false]
          exact skip h (Pres.refl σ) hs
        · exact hs.elim

end
end Go.Pi
end

section
namespace Go.Pi
open Go.RowKit
set_option linter.unusedSimpArgs false
set_option linter.unusedVariables false

section
variable {P : Program} {B : Nat → Prop} {w0 : World} {S0 : Cells} {G G' : Gh} {outs : Outs} {σ : St} {a : Act} {w w' : World} {o : Oper} {look look' : Look}

/-- What a value that is closed may name is as it was. -/
structure Over (G : Gh) (look : Look) (G' : Gh) (look' : Look) (l q : List Nat) : Prop where
  S : G'.S = G.S
  Y : G'.Y = G.Y
  kept : ∀ o, q.contains o = true → look' o = look o ∧ G'.M o = G.M o
  own : ∀ o ob, l.contains o = true → look o = some ob → ob.still → (∃ ob', look' o = some ob' ∧ ob'.still) ∧ G'.M o = G.M o

theorem Over.ptr {l q : List Nat} (H : Over G look G' look' l q) {o off : Nat} {v : Value} (hl : l.contains o = true) (h : PtrR G look o off v) : PtrR G' look' o off v := by
  obtain ⟨⟨ob, ho, hs⟩, b, c, hm, e⟩ := h
  obtain ⟨h1, h2⟩ := H.own o ob hl ho hs
  exact ⟨h1, b, c, h2.trans hm, e⟩

theorem Over.vr0 {l q : List Nat} (H : Over G look G' look' l q) : ∀ {av : AV} {v : Value}, closed0 l q av = true → VR0 G w look av v → VR0 G' w look' av v := by
  intro av v hc h
  cases av with
  | undef => trivial
  | skip => exact h
  | int k n => exact h
  | bool b => exact h
  | str s => exact h
  | nils => exact h
  | sl ex s xs => exact ⟨by rw [H.S]; exact h.1, h.2⟩
  | ref o ver =>
    obtain ⟨h1, h2⟩ := H.kept o hc
    obtain ⟨hl, m, ver', s, xs, ho, hr⟩ := h
    exact ⟨hl, m, ver', s, xs, h1.trans ho, by rw [h2]; exact hr⟩
  | ptr o off => exact H.ptr hc h
  | ptre o ver i off =>
    obtain ⟨h1, h2⟩ := H.kept o hc
    obtain ⟨hl, m, ver', s, xs, ho, hr⟩ := h
    exact ⟨hl, m, ver', s, xs, h1.trans ho, by rw [h2]; exact hr⟩
  | pel s xs i off =>
    obtain ⟨hi, b, o0, he, e⟩ := h
    exact ⟨hi, b, o0, by rw [H.S]; exact he, e⟩
  | pix o base s m i off => exact ⟨h.1, H.ptr hc h.2⟩
  | cst u => exact h
  | yld i => exact ⟨h.1, fun b hb => h.2 b (by rw [← H.Y]; exact hb)⟩
  | fn f cap =>
    obtain ⟨vs, e, ha⟩ := h
    refine ⟨vs, e, ?_⟩
    simp only [closed0, List.all_eq_true] at hc
    have : ∀ (cap : List Nat) (vs : List Value), (∀ x ∈ cap, l.contains x = true) → All2 (fun o v => PtrR G look o 0 v) cap vs → All2 (fun o v => PtrR G' look' o 0 v) cap vs := by
      intro cap
      induction cap with
      | nil => intro vs _ h; cases vs with
        | nil => trivial
        | cons _ _ => exact h.elim
      | cons c r ih => intro vs hx h; cases vs with
        | nil => exact h.elim
        | cons u us => exact ⟨H.ptr (hx c (by simp)) h.1, ih us (fun x hxx => hx x (by simp [hxx])) h.2⟩
    exact this cap vs.toList hc ha
  | agg _ => exact h.elim
  | tup _ => exact h.elim

theorem Over.crs {l q : List Nat} (H : Over G look G' look' l q) : ∀ {cs : List AV} {vs : List Value}, cs.all (closed0 l q) = true → All2 (CR G w look) cs vs → All2 (CR G' w look') cs vs
  | [], [], _, _ => trivial
  | [], _ :: _, _, h => h.elim
  | _ :: _, [], _, h => h.elim
  | c :: r, v :: vs, hc, h => by
    simp only [List.all_cons, Bool.and_eq_true] at hc
    exact ⟨⟨H.vr0 hc.1 h.1.1, h.1.2⟩, H.crs hc.2 h.2⟩

theorem Over.vr1 {l q : List Nat} (H : Over G look G' look' l q) {av : AV} {v : Value} (hc : closed1 l q av = true) (h : VR1 G w look av v) : VR1 G' w look' av v := by
  cases av <;> first
    | (obtain ⟨vs, e, ha⟩ := h; exact ⟨vs, e, H.crs hc ha⟩)
    | (simp only [VR1] at h ⊢; exact H.vr0 hc h)

theorem Over.vr {l q : List Nat} (H : Over G look G' look' l q) {av : AV} {v : Value} (hc : closed l q av = true) (h : VR G w look av v) : VR G' w look' av v := by
  cases av <;> try (simp only [VR] at h ⊢; exact H.vr1 hc h)
  rename_i as
  obtain ⟨vs, e, ha⟩ := h
  refine ⟨vs, e, ?_⟩
  simp only [closed, List.all_eq_true] at hc
  have : ∀ (as : List AV) (vs : List Value), (∀ x ∈ as, closed1 l q x = true) → All2 (VR1 G w look) as vs → All2 (VR1 G' w look') as vs := by
    intro as
    induction as with
    | nil => intro vs _ h; cases vs with
      | nil => trivial
      | cons _ _ => exact h.elim
    | cons c r ih => intro vs hx h; cases vs with
      | nil => exact h.elim
      | cons u us => exact ⟨H.vr1 (hx c (by simp)) h.1, ih us (fun x hxx => hx x (by simp [hxx])) h.2⟩
  exact this as vs.toList hc ha

/-! ### parts of the state at a loop's head -/
theorem extC_rel (hobj : ∀ o ob, look o = some ob → ObR B G w look o ob) {l : List Nat}
    (href : ∀ o ver v, l.contains o = true → isRef look o (.ref o ver) = true → VR0 G w look (.ref o ver) v → VR0 G' w look' (.ref o 0) v)
    (hnil : ∀ o, l.contains o = true → look o = none → ∀ v, v = Value.slice none 0 0 → VR0 G' w look' (.ref o 0) v) (hS : G'.S = G.S) {z : Sch} :
    ∀ {ts : List CTpl} {y0 : z.D} {cs : List AV} {vs : List Value} {y : (schC ts z).D}, All2 (CR G w look) cs vs → extC look l y0 ts cs = some y → All2 (CR G' w look') (mkC ts y).1 vs ∧ (mkC ts y).2 = y0
  | [], y0, cs, vs, y, h, e => by
    cases cs with
    | nil => simp [extC] at e; subst e; cases vs with
      | nil => exact ⟨trivial, rfl⟩
      | cons _ _ => exact h.elim
    | cons _ _ => simp [extC] at e
  | .data s :: r, y0, cs, vs, y, h, e => by
    cases cs with
    | nil => simp [extC] at e
    | cons c cs => cases vs with
      | nil => exact h.elim
      | cons v vs =>
        simp only [extC] at e
        split at e
        · rename_i x y' h1 h2
          simp at e; subst e
          obtain ⟨h3, h4⟩ := extC_rel hobj href hnil hS h.2 h2
          refine ⟨⟨?_, h3⟩, h4⟩
          have hd : TyV G.S w (false, s) x v := decTy_rel hobj h.1.vr h1
          have hd : DR G.S w s x [v] := hd
          have he : All2 (CR G' w look') (s.enc x) [v] := enc_rel (by rw [hS]; exact hd)
          show CR G' w look' ((s.enc x).headD .undef) v
          cases hh : s.enc x with
          | nil => rw [hh] at he; exact he.elim
          | cons c' r' => rw [hh] at he; exact he.1
        · simp at e
  | .ref o :: r, y0, cs, vs, y, h, e => by
    cases cs with
    | nil => simp [extC] at e
    | cons c cs => cases vs with
      | nil => exact h.elim
      | cons v vs =>
        simp only [extC] at e
        split at e
        · rename_i hc
          simp only [Bool.and_eq_true] at hc
          obtain ⟨h3, h4⟩ := extC_rel hobj href hnil hS h.2 e
          refine ⟨⟨⟨?_, h.1.2⟩, h3⟩, h4⟩
          obtain ⟨hr, hl⟩ := hc
          cases c <;> simp only [isRef] at hr <;> try (simp at hr; done)
          case ref p ver =>
            simp only [Bool.and_eq_true, beq_iff_eq] at hr
            obtain ⟨rfl, hr⟩ := hr
            exact href p ver v hl (by simp [isRef, hr]) h.1.1
          case nils => exact hnil o hl (by simpa using hr) v h.1.1
        · simp at e

/-- The block of each listed object. -/
def mapM (σ : St) (M : Nat → Option (Nat × Nat)) : List (Nat × OTpl) → Nat → Option (Nat × Nat)
  | [], _ => none
  | e :: r, o => if e.1 = o then (match lk (actual1 σ e) σ.sto with
    | none => none
    | some _ => M (actual1 σ e)) else mapM σ M r o

theorem nodup_inj {α : Type} {f : α → Nat} : ∀ {l : List α} {x y : α}, nodupN (l.map f) = true → x ∈ l → y ∈ l → f x = f y → x = y
  | [], x, y, _, h, _, _ => by simp at h
  | a :: r, x, y, hn, hx, hy, e => by
    simp only [List.map_cons, nodupN, Bool.and_eq_true, Bool.not_eq_true', List.contains_eq_mem, decide_eq_false_iff_not] at hn
    rcases List.mem_cons.1 hx with h1 | h1
    · rcases List.mem_cons.1 hy with h2 | h2
      · rw [h1, h2]
      · subst h1; exact (hn.1 (List.mem_map.2 ⟨y, h2, e.symm⟩)).elim
    · rcases List.mem_cons.1 hy with h2 | h2
      · subst h2; exact (hn.1 (List.mem_map.2 ⟨x, h1, e⟩)).elim
      · exact nodup_inj hn.2 h1 h2 e

theorem mapM_mem {M : Nat → Option (Nat × Nat)} : ∀ {obs : List (Nat × OTpl)} {e : Nat × OTpl}, nodupN (obs.map (·.1)) = true → e ∈ obs → mapM σ M obs e.1 = (match lk (actual1 σ e) σ.sto with
    | none => none
    | some _ => M (actual1 σ e))
  | [], e, _, h => by simp at h
  | a :: r, e, hn, h => by
    have hn0 := hn
    simp only [List.map_cons, nodupN, Bool.and_eq_true, Bool.not_eq_true', List.contains_eq_mem, decide_eq_false_iff_not] at hn
    rcases List.mem_cons.1 h with rfl | h
    · simp [mapM]
    · have hne : ¬ (a.1 = e.1) := fun e' => hn.1 (List.mem_map.2 ⟨e, h, e'.symm⟩)
      simp only [mapM, if_neg hne]
      exact mapM_mem hn.2 h

theorem mapM_some {M : Nat → Option (Nat × Nat)} : ∀ {obs : List (Nat × OTpl)} {o : Nat} {q : Nat × Nat}, mapM σ M obs o = some q → ∃ e ∈ obs, e.1 = o
  | [], o, q, h => by simp [mapM] at h
  | a :: r, o, q, h => by
    simp only [mapM] at h
    split at h
    · rename_i e
      exact ⟨a, .head _, e⟩
    · obtain ⟨e, he, h1⟩ := mapM_some h
      exact ⟨e, .tail _ he, h1⟩

theorem extC_snd {l : List Nat} {z : Sch} : ∀ {ts : List CTpl} {y0 : z.D} {cs : List AV} {y : (schC ts z).D}, extC look l y0 ts cs = some y → (mkC ts y).2 = y0
  | [], y0, cs, y, e => by cases cs with
    | nil => simp [extC] at e; subst e; rfl
    | cons _ _ => simp [extC] at e
  | .data s :: r, y0, cs, y, e => by cases cs with
    | nil => simp [extC] at e
    | cons c cs =>
      simp only [extC] at e
      split at e
      · rename_i x y' h1 h2
        simp at e; subst e
        exact extC_snd (ts := r) h2
      · simp at e
  | .ref o :: r, y0, cs, y, e => by cases cs with
    | nil => simp [extC] at e
    | cons c cs =>
      simp only [extC] at e
      split at e
      · exact extC_snd (ts := r) e
      · simp at e

/-- What an object at the head is. -/
def ObSpec (l : List Nat) (σ0 σ : St) (e : Nat × OTpl) (ob : Ob) : Prop := match e.2 with
  | .keep => lk e.1 σ0.sto = some ob
  | .arr m s => ∃ xs, ob = .arr m 0 s xs ∧ ((∃ ver, lk e.1 σ.sto = some (.arr m ver s xs)) ∨ (lk e.1 σ.sto = none ∧ xs = [] ∧ m.fix = none ∧ 0 < s.size))
  | .cells ts => ∃ (vs : List AV) (z : Sch) (y0 : z.D) (y : (schC ts z).D), lk e.1 σ.sto = some (.cells false vs) ∧ extC (lks σ) l y0 ts vs = some y ∧ ob = .cells false (mkC ts y).1
  | .via t ts => ∃ (p : Nat) (vs : List AV) (z : Sch) (y0 : z.D) (y : (schC ts z).D), get σ.tm t = .ptr p 0 ∧ lk p σ.sto = some (.cells false vs) ∧ extC (lks σ) l y0 ts vs = some y ∧ ob = .cells false (mkC ts y).1

theorem mkO_mem {l : List Nat} {σ0 : St} :
    ∀ {obs : List (Nat × OTpl)} {y : (schO obs).D}, nodupN (obs.map (·.1)) = true → extO l σ obs = some y → (∀ o, (o, OTpl.keep) ∈ obs → (lk o σ0.sto).isSome = true) →
      (∀ e ∈ obs, ∃ ob, lk e.1 (mkO σ0 obs y) = some ob ∧ ObSpec l σ0 σ e ob) ∧ ∀ o ob, lk o (mkO σ0 obs y) = some ob → ∃ e ∈ obs, e.1 = o
  | [], y, _, _, _ => ⟨fun e h => by simp at h, fun o ob h => by simp [mkO, lk] at h⟩
  | (o, tpl) :: r, y, hn, he, hk => by
    simp only [List.map_cons, nodupN, Bool.and_eq_true, Bool.not_eq_true', List.contains_eq_mem, decide_eq_false_iff_not] at hn
    have hk' : ∀ o, (o, OTpl.keep) ∈ r → (lk o σ0.sto).isSome = true := fun o h => hk o (.tail _ h)
    -- the head, then the rest
    have join : ∀ (ob : Ob) (y' : (schO r).D), mkO σ0 ((o, tpl) :: r) y = (o, ob) :: mkO σ0 r y' → extO l σ r = some y' → ObSpec l σ0 σ (o, tpl) ob →
        (∀ e ∈ (o, tpl) :: r, ∃ ob, lk e.1 (mkO σ0 ((o, tpl) :: r) y) = some ob ∧ ObSpec l σ0 σ e ob) ∧ ∀ o' ob, lk o' (mkO σ0 ((o, tpl) :: r) y) = some ob → ∃ e ∈ (o, tpl) :: r, e.1 = o' := by
      intro ob y' hm hy' hsp
      obtain ⟨h1, h2⟩ := mkO_mem hn.2 hy' hk'
      rw [hm]
      refine ⟨fun e h => ?_, fun o' ob' h => ?_⟩
      · rcases List.mem_cons.1 h with rfl | h
        · exact ⟨ob, by simp [lk], hsp⟩
        · obtain ⟨ob', h3, h4⟩ := h1 e h
          have hne : ¬ (o = e.1) := fun e' => hn.1 (List.mem_map.2 ⟨e, h, e'.symm⟩)
          exact ⟨ob', by simp [lk, hne, h3], h4⟩
      · by_cases e' : o = o'
        · exact ⟨(o, tpl), .head _, e'⟩
        · simp only [lk, if_neg e'] at h
          obtain ⟨e, he, h3⟩ := h2 o' ob' h
          exact ⟨e, .tail _ he, h3⟩
    cases tpl with
    | keep =>
      obtain ⟨ob, hob⟩ := Option.isSome_iff_exists.1 (hk o (.head _))
      exact join ob y (by simp [mkO, hob]) he hob
    | arr m s =>
      simp only [extO] at he
      split at he
      · rename_i m' ver s' xs hlk
        split at he
        · rename_i hs
          subst hs
          split at he
          · rename_i hm
            subst hm
            split at he
            · rename_i y' hy'
              simp at he; subst he
              exact join _ y' rfl hy' ⟨xs, rfl, .inl ⟨ver, hlk⟩⟩
            · simp at he
          · simp at he
        · simp at he
      · simp at he
      · rename_i hlk
        split at he
        · simp at he
        · rename_i hcond
          simp only [not_or, Decidable.not_not] at hcond
          split at he
          · rename_i y' hy'
            simp at he; subst he
            exact join _ y' rfl hy' ⟨[], rfl, .inr ⟨hlk, rfl, hcond.1, by omega⟩⟩
          · simp at he
    | cells cs =>
      simp only [extO] at he
      split at he
      · rename_i vs hlk
        split at he
        · rename_i y' hy'
          have h2 := extC_snd he
          exact join _ y' (by simp only [mkO]; rw [h2]) hy' ⟨vs, _, _, _, hlk, he, rfl⟩
        · simp at he
      · simp at he
    | via t cs =>
      simp only [extO] at he
      split at he
      · rename_i p hp
        split at he
        · rename_i vs hlk
          split at he
          · rename_i y' hy'
            have h2 := extC_snd he
            exact join _ y' (by simp only [mkO]; rw [h2]) hy' ⟨p, vs, _, _, _, hp, hlk, he, rfl⟩
          · simp at he
        · simp at he
      · simp at he

/-- The temporaries. -/
theorem mkT_rel {l : List Nat} {σ0 : St} {X : Nat → AV → Prop} {obs : List (Nat × OTpl)} :
    ∀ {tms : List (Nat × Tpl)} {v : (schT tms obs).D}, extT l σ tms obs = some v →
      (∀ t ag s x, (t, Tpl.data ag s) ∈ tms → decTy (lks σ) (ag, s) (get σ.tm t) = some x → X t (encTy (ag, s) x)) →
      (∀ t, (t, Tpl.keep) ∈ tms → X t (get σ0.tm t)) →
      (∀ t o, (t, Tpl.ref o) ∈ tms → isRef (lks σ) o (get σ.tm t) = true → l.contains o = true → X t (.ref o 0)) →
      (∀ t o, (t, Tpl.ptr o) ∈ tms → viaOf t o obs = true → X t (.ptr o 0)) →
      ∃ y, extO l σ obs = some y ∧ ∀ tm, (∀ t, X t (get tm t)) → (∀ t, X t (get (mkT σ0 tms obs v tm).1 t)) ∧ (mkT σ0 tms obs v tm).2 = mkO σ0 obs y ∧ (mkT σ0 tms obs v tm).1.length = tm.length
  | [], v, he, _, _, _, _ => ⟨v, he, fun tm h => ⟨h, rfl, rfl⟩⟩
  | (t, tpl) :: r, v, he, h1, h2, h3, h4 => by
    have set : ∀ (tm : List AV) (av : AV), X t av → (∀ t', X t' (get tm t')) → ∀ t', X t' (get (tm.set t av) t') := fun tm av hx h t' => by
      rw [get_set]
      split
      · rename_i e; rw [e.1]; exact hx
      · exact h t'
    cases tpl with
    | data ag s =>
      simp only [extT] at he
      split at he
      · rename_i x y' hx hy'
        simp at he; subst he
        obtain ⟨y, hy, hall⟩ := mkT_rel hy' (fun t ag s x hm => h1 t ag s x (.tail _ hm)) (fun t hm => h2 t (.tail _ hm)) (fun t o hm => h3 t o (.tail _ hm)) (fun t o hm => h4 t o (.tail _ hm))
        refine ⟨y, hy, fun tm h => ?_⟩
        obtain ⟨a1, a2, a3⟩ := hall (tm.set t (encTy (ag, s) x)) (set tm _ (h1 t ag s x (.head _) hx) h)
        exact ⟨a1, a2, by rw [← List.length_set (as := tm) (i := t) (a := encTy (ag, s) x)]; exact a3⟩
      · simp at he
    | keep =>
      obtain ⟨y, hy, hall⟩ := mkT_rel (tms := r) he (fun t ag s x hm => h1 t ag s x (.tail _ hm)) (fun t hm => h2 t (.tail _ hm)) (fun t o hm => h3 t o (.tail _ hm)) (fun t o hm => h4 t o (.tail _ hm))
      refine ⟨y, hy, fun tm h => ?_⟩
      obtain ⟨a1, a2, a3⟩ := hall (tm.set t (get σ0.tm t)) (set tm _ (h2 t (.head _)) h)
      exact ⟨a1, a2, by rw [← List.length_set (as := tm) (i := t) (a := get σ0.tm t)]; exact a3⟩
    | ref o =>
      simp only [extT] at he
      split at he
      · rename_i hc
        simp only [Bool.and_eq_true] at hc
        obtain ⟨y, hy, hall⟩ := mkT_rel (tms := r) he (fun t ag s x hm => h1 t ag s x (.tail _ hm)) (fun t hm => h2 t (.tail _ hm)) (fun t o hm => h3 t o (.tail _ hm)) (fun t o hm => h4 t o (.tail _ hm))
        refine ⟨y, hy, fun tm h => ?_⟩
        obtain ⟨a1, a2, a3⟩ := hall (tm.set t (.ref o 0)) (set tm _ (h3 t o (.head _) hc.1 hc.2) h)
        exact ⟨a1, a2, by rw [← List.length_set (as := tm) (i := t) (a := .ref o 0)]; exact a3⟩
      · simp at he
    | ptr o =>
      simp only [extT] at he
      split at he
      · rename_i hc
        obtain ⟨y, hy, hall⟩ := mkT_rel (tms := r) he (fun t ag s x hm => h1 t ag s x (.tail _ hm)) (fun t hm => h2 t (.tail _ hm)) (fun t o hm => h3 t o (.tail _ hm)) (fun t o hm => h4 t o (.tail _ hm))
        refine ⟨y, hy, fun tm h => ?_⟩
        obtain ⟨a1, a2, a3⟩ := hall (tm.set t (.ptr o 0)) (set tm _ (h4 t o (.head _) hc) h)
        exact ⟨a1, a2, by rw [← List.length_set (as := tm) (i := t) (a := .ptr o 0)]; exact a3⟩
      · simp at he

theorem viaOf_mem {t o : Nat} : ∀ {obs : List (Nat × OTpl)}, viaOf t o obs = true → ∃ cs, (o, OTpl.via t cs) ∈ obs
  | [], h => by simp [viaOf] at h
  | (p, tpl) :: r, h => by
    have rest : viaOf t o r = true → ∃ cs, (o, OTpl.via t cs) ∈ (p, tpl) :: r := fun h => by
      obtain ⟨cs, hm⟩ := viaOf_mem h
      exact ⟨cs, .tail _ hm⟩
    cases tpl with
    | via u cs =>
      simp only [viaOf, Bool.or_eq_true, Bool.and_eq_true, beq_iff_eq] at h
      rcases h with ⟨rfl, rfl⟩ | h
      · exact ⟨cs, .head _⟩
      · exact rest h
    | keep => exact rest h
    | arr m s => exact rest h
    | cells l => exact rest h

theorem keptO_mem {o : Nat} : ∀ {obs : List (Nat × OTpl)}, (keptO obs).contains o = true → (o, OTpl.keep) ∈ obs
  | [], h => by simp [keptO] at h
  | (p, tpl) :: r, h => by
    cases tpl with
    | keep =>
      simp only [keptO, List.contains_cons, Bool.or_eq_true, beq_iff_eq] at h
      rcases h with rfl | h
      · exact .head _
      · exact .tail _ (keptO_mem h)
    | via u cs => exact .tail _ (keptO_mem h)
    | arr m s => exact .tail _ (keptO_mem h)
    | cells l => exact .tail _ (keptO_mem h)

theorem ownO_mem {o : Nat} : ∀ {obs : List (Nat × OTpl)}, (ownO obs).contains o = true → ∃ tpl, (o, tpl) ∈ obs ∧ ∀ t cs, tpl ≠ .via t cs
  | [], h => by simp [ownO] at h
  | (p, tpl) :: r, h => by
    have rest : (ownO r).contains o = true → ∃ tpl', (o, tpl') ∈ (p, tpl) :: r ∧ ∀ t cs, tpl' ≠ .via t cs := fun h => by
      obtain ⟨tpl', hm, hn⟩ := ownO_mem h
      exact ⟨tpl', .tail _ hm, hn⟩
    cases tpl with
    | via u cs => exact rest h
    | _ =>
      simp only [ownO, List.contains_cons, Bool.or_eq_true, beq_iff_eq] at h
      rcases h with rfl | h
      · exact ⟨_, .head _, fun t cs e => by simp at e⟩
      · exact rest h

theorem actual1_own {o : Nat} {tpl : OTpl} (h : ∀ t cs, tpl ≠ .via t cs) : actual1 σ (o, tpl) = o := by
  cases tpl <;> first | rfl | exact absurd rfl (h _ _)

end
end Go.Pi
end

section
namespace Go.Pi
open Go.RowKit
set_option linter.unusedSimpArgs false
set_option linter.unusedVariables false

section
variable {P : Program} {B : Nat → Prop} {w0 : World} {S0 : Cells} {G G' : Gh} {outs : Outs} {σ : St} {a : Act} {w w' : World} {o : Oper} {look look' : Look}

theorem isRef_ref {o p ver : Nat} (h : isRef look o (.ref p ver) = true) : p = o ∧ ∃ m s xs, look o = some (.arr m ver s xs) := by
  simp only [isRef, Bool.and_eq_true, beq_iff_eq] at h
  obtain ⟨rfl, h⟩ := h
  refine ⟨rfl, ?_⟩
  split at h
  · rename_i m ver' s xs hl
    simp at h
    subst h
    exact ⟨m, s, xs, hl⟩
  · simp at h

theorem ext_rel {A : LAnn} {σ0 : St} {v : A.S.D} (h : Rel B w0 S0 G outs σ a w) (hok : A.okAt σ0 = true) (hkT : ∀ t, (t, Tpl.keep) ∈ A.tms → get σ.tm t = get σ0.tm t ∨ get σ0.tm t = .undef)
    (hkO : ∀ o, (o, OTpl.keep) ∈ A.obs → ∃ ob, lk o σ0.sto = some ob ∧ lk o σ.sto = some ob) (hout : σ.outs = σ0.outs) (hlen : σ.tm.length = σ0.tm.length) (he : A.ext σ = some v) : ∃ G', Rel B w0 S0 G' outs (A.mk' σ0 v) a w := by
  unfold LAnn.ext at he
  split at he
  · rename_i hact
    unfold LAnn.okAt at hok
    simp only [Bool.and_eq_true] at hok
    obtain ⟨⟨⟨⟨hids, hokT⟩, hokO⟩, hokouts⟩, _⟩ := hok
    have hids : nodupN (A.obs.map (·.1)) = true := hids
    -- the objects' part
    obtain ⟨y, hy, hsh⟩ := mkT_rel (σ := σ) (σ0 := σ0) (l := ownO A.obs) (X := fun _ _ => True) he (fun _ _ _ _ _ _ => trivial) (fun _ _ => trivial) (fun _ _ _ _ _ => trivial) (fun _ _ _ _ => trivial)
    have hM : ∀ e ∈ A.obs, mapM σ G.M A.obs e.1 = (match lk (actual1 σ e) σ.sto with
      | none => none
      | some _ => G.M (actual1 σ e)) := fun e hm => mapM_mem hids hm
    have hkeep0 : ∀ o, (o, OTpl.keep) ∈ A.obs → (lk o σ0.sto).isSome = true := fun o hm => by obtain ⟨ob, h1, _⟩ := hkO o hm; simp [h1]
    obtain ⟨hmem1, hmem2⟩ := mkO_mem (σ := σ) (σ0 := σ0) (l := ownO A.obs) hids hy hkeep0
    -- what is closed is as it was
    have hover : Over G (lks σ) { G with M := mapM σ G.M A.obs } (fun p => lk p (mkO σ0 A.obs y)) (ownO A.obs) (keptO A.obs) := by
      refine ⟨rfl, rfl, fun o hq => ?_, fun o ob hl hob hst => ?_⟩
      · have hm := keptO_mem hq
        obtain ⟨ob, h1, h2⟩ := hkO o hm
        obtain ⟨ob', h3, h4⟩ := hmem1 _ hm
        have h4 : lk o σ0.sto = some ob' := h4
        rw [h1] at h4
        simp at h4
        subst h4
        refine ⟨h3.trans h2.symm, ?_⟩
        have := hM _ hm
        simp only [actual1] at this
        show mapM σ G.M A.obs o = G.M o
        rw [this, h2]
      · obtain ⟨tpl, hm, hnv⟩ := ownO_mem hl
        have hob : lk o σ.sto = some ob := hob
        obtain ⟨ob', h3, h4⟩ := hmem1 _ hm
        refine ⟨⟨ob', h3, ?_⟩, ?_⟩
        · cases tpl with
          | keep =>
            obtain ⟨ob2, h5, h6⟩ := hkO o hm
            have h4 : lk o σ0.sto = some ob' := h4
            rw [h5] at h4
            simp at h4; subst h4
            rw [h6] at hob
            simp at hob; subst hob
            exact hst
          | arr m s =>
            obtain ⟨xs, rfl, h5⟩ := h4
            rcases h5 with ⟨ver, h5⟩ | ⟨h5, _⟩
            · have h5 : lk o σ.sto = _ := h5
              rw [h5] at hob
              simp at hob; subst hob
              exact hst
            · have h5 : lk o σ.sto = none := h5
              rw [h5] at hob; simp at hob
          | cells ts => obtain ⟨vs, z, y0, y', _, _, rfl⟩ := h4; trivial
          | via t ts => exact absurd rfl (hnv t ts)
        · have := hM _ hm
          rw [actual1_own hnv] at this
          show mapM σ G.M A.obs o = G.M o
          rw [show mapM σ G.M A.obs o = _ from this, hob]
    -- slices under construction
    have hrefT : ∀ o ver v, (ownO A.obs).contains o = true → isRef (lks σ) o (.ref o ver) = true → VR0 G w (lks σ) (.ref o ver) v → VR0 { G with M := mapM σ G.M A.obs } w (fun p => lk p (mkO σ0 A.obs y)) (.ref o 0) v := by
      intro o ver v hl hr hv
      obtain ⟨_, m, s, xs, hob⟩ := isRef_ref hr
      obtain ⟨hlf, m', ver', s', xs', hob', hmf, hle, hrv⟩ := hv
      rw [hob] at hob'
      simp only [Option.some.injEq, Ob.arr.injEq] at hob'
      obtain ⟨rfl, rfl, rfl, e2⟩ := hob'
      have e3 := eq_of_heq e2
      subst e3
      have hob : lk o σ.sto = some (.arr m ver s xs) := hob
      obtain ⟨tpl, hm, hnv⟩ := ownO_mem hl
      obtain ⟨ob', h3, h4⟩ := hmem1 _ hm
      have hMo := hM _ hm
      rw [actual1_own hnv] at hMo
      simp only [hob] at hMo
      cases tpl with
      | keep =>
        obtain ⟨ob2, h5, h6⟩ := hkO o hm
        have h4 : lk o σ0.sto = some ob' := h4
        rw [h5] at h4
        simp at h4; subst h4
        rw [h6] at hob
        simp at hob; subst hob
        exact ⟨hlf, m, ver, s, xs, h3, hmf, by omega, fun e => by show RefV (mapM σ G.M A.obs o) _ _; rw [show mapM σ G.M A.obs o = _ from hMo]; exact hrv rfl⟩
      | arr m2 s2 =>
        obtain ⟨xs2, rfl, h5⟩ := h4
        rcases h5 with ⟨ver2, h5⟩ | ⟨h5, _⟩
        · have h5 : lk o σ.sto = _ := h5
          rw [h5] at hob
          simp only [Option.some.injEq, Ob.arr.injEq] at hob
          obtain ⟨rfl, rfl, rfl, e2⟩ := hob
          have e3 := eq_of_heq e2
          subst e3
          exact ⟨hlf, m2, 0, s2, xs2, h3, hmf, by omega, fun e => by show RefV (mapM σ G.M A.obs o) _ _; rw [show mapM σ G.M A.obs o = _ from hMo]; exact hrv rfl⟩
        · have h5 : lk o σ.sto = none := h5
          rw [h5] at hob; simp at hob
      | cells ts =>
        obtain ⟨vs, z, y0, y', h5, _, rfl⟩ := h4
        have h5 : lk o σ.sto = _ := h5
        rw [h5] at hob; simp at hob
      | via t ts => exact absurd rfl (hnv t ts)
    have hnilT : ∀ o, (ownO A.obs).contains o = true → lks σ o = none → ∀ v, v = Value.slice none 0 0 → VR0 { G with M := mapM σ G.M A.obs } w (fun p => lk p (mkO σ0 A.obs y)) (.ref o 0) v := by
      intro o hl hnone v hv
      subst hv
      have hnone : lk o σ.sto = none := hnone
      obtain ⟨tpl, hm, hnv⟩ := ownO_mem hl
      obtain ⟨ob', h3, h4⟩ := hmem1 _ hm
      have hMo := hM _ hm
      rw [actual1_own hnv] at hMo
      simp only [hnone] at hMo
      cases tpl with
      | keep =>
        obtain ⟨ob2, h5, h6⟩ := hkO o hm
        rw [h6] at hnone; simp at hnone
      | arr m2 s2 =>
        obtain ⟨xs2, rfl, h5⟩ := h4
        rcases h5 with ⟨ver2, h5⟩ | ⟨_, rfl, hmf, _⟩
        · have h5 : lk o σ.sto = _ := h5
          rw [h5] at hnone; simp at hnone
        · exact ⟨trivial, m2, 0, s2, [], h3, hmf, by omega, fun e => by show RefV (mapM σ G.M A.obs o) _ _; rw [show mapM σ G.M A.obs o = _ from hMo]; exact ⟨rfl, rfl⟩⟩
      | cells ts =>
        obtain ⟨vs, z, y0, y', h5, _, rfl⟩ := h4
        have h5 : lk o σ.sto = _ := h5
        rw [h5] at hnone; simp at hnone
      | via t ts => exact absurd rfl (hnv t ts)
    have hC : ∀ {z : Sch} {ts : List CTpl} {y0 : z.D} {cs : List AV} {vs : List Value} {y' : (schC ts z).D}, All2 (CR G w (lks σ)) cs vs → extC (lks σ) (ownO A.obs) y0 ts cs = some y' →
        All2 (CR { G with M := mapM σ G.M A.obs } w (fun p => lk p (mkO σ0 A.obs y))) (mkC ts y').1 vs := fun hcs hex =>
      (extC_rel h.obj hrefT hnilT rfl hcs hex).1
    -- the temporaries
    obtain ⟨y2, hy2, hT⟩ := mkT_rel (σ := σ) (σ0 := σ0) (l := ownO A.obs) (X := fun t av => VR { G with M := mapM σ G.M A.obs } w (fun p => lk p (mkO σ0 A.obs y)) av (a.tmps.getD t Go.undef)) he
      (fun t ag s x hm hx => by
        have hd : TyV G.S w (ag, s) x _ := decTy_rel h.obj (h.tm t) hx
        exact encTy_rel (G := { G with M := mapM σ G.M A.obs }) hd)
      (fun t hm => by
        have hcl := List.all_eq_true.1 hokT _ hm
        simp only at hcl
        rcases hkT t hm with e | e
        · have hv := h.tm t
          rw [e] at hv
          exact hover.vr hcl hv
        · rw [e]; simp only [VR, VR1, VR0])
      (fun t o hm hr hl => by
        have hv := h.tm t
        revert hr hv
        generalize get σ.tm t = q
        intro hr hv
        cases q <;> try (simp [isRef] at hr; done)
        case ref p ver =>
          have hp := (isRef_ref hr).1
          subst hp
          exact hrefT p ver _ hl hr hv
        case nils => exact hnilT o hl (by simpa [isRef] using hr) _ hv)
      (fun t o hm hvia => by
        obtain ⟨cs, hvm⟩ := viaOf_mem hvia
        obtain ⟨ob', h3, h4⟩ := hmem1 _ hvm
        obtain ⟨p, vs, z, y0, y', hp, hlk, hex, rfl⟩ := h4
        have hv := h.tm t
        rw [hp] at hv
        obtain ⟨_, b, c, hm', e⟩ := hv
        have hMo := hM _ hvm
        simp only [actual1, hp, hlk] at hMo
        exact ⟨⟨_, h3, trivial⟩, b, c, hMo.trans hm', e⟩)
    rw [hy] at hy2
    simp at hy2
    subst hy2
    obtain ⟨hT1, hT2, hT3⟩ := hT (List.replicate σ0.tm.length .undef) (fun t => by
      have : get (List.replicate σ0.tm.length AV.undef) t = .undef := by
        simp only [get, List.getD_eq_getElem?_getD, List.getElem?_replicate]
        split <;> rfl
      rw [this]
      simp only [VR, VR1, VR0])
    have hsto : (A.mk' σ0 v).sto = mkO σ0 A.obs y := hT2
    have htm : (A.mk' σ0 v).tm = (mkT σ0 A.tms A.obs v (List.replicate σ0.tm.length .undef)).1 := rfl
    refine ⟨{ G with M := mapM σ G.M A.obs }, h.below, h.bsz, h.s0, h.snew, h.slt, ?_, ?_, ?_, ?_, ?_, h.yeq⟩
    · rw [htm, hT3]
      simp
      rw [← hlen]
      exact h.tml
    · rw [htm, hsto]; exact hT1
    · rw [hsto]
      show All2 _ σ0.outs outs.fr
      rw [← hout] at hokouts ⊢
      have : ∀ (l : List (List AV)) (m : List (Array Value)), (l.all fun l => l.all (closed (ownO A.obs) (keptO A.obs))) = true → All2 (fun (l : List AV) (arr : Array Value) => l.length ≤ arr.size ∧ ∀ t, VR G w (lks σ) (get l t) (arr.getD t Go.undef)) l m →
          All2 (fun (l : List AV) (arr : Array Value) => l.length ≤ arr.size ∧ ∀ t, VR { G with M := mapM σ G.M A.obs } w (fun p => lk p (mkO σ0 A.obs y)) (get l t) (arr.getD t Go.undef)) l m := by
        intro l
        induction l with
        | nil => intro m _ h; cases m with
          | nil => trivial
          | cons _ _ => exact h.elim
        | cons x r ih => intro m hc h; cases m with
          | nil => exact h.elim
          | cons q m =>
            simp only [List.all_cons, Bool.and_eq_true] at hc
            refine ⟨⟨h.1.1, fun t => ?_⟩, ih m hc.2 h.2⟩
            have hv := h.1.2 t
            rcases Nat.lt_or_ge t x.length with ht | ht
            · have hmem : get x t ∈ x := by
                have := getD_of_lt ht AV.undef
                exact List.mem_of_getElem? this
              exact hover.vr (List.all_eq_true.1 hc.1 _ hmem) hv
            · have : get x t = .undef := by simp [get, List.getD_eq_getElem?_getD, List.getElem?_eq_none ht]
              rw [this]; simp only [VR, VR1, VR0]
      exact this _ _ hokouts h.outl
    · rw [hsto]
      intro o ob hob
      obtain ⟨e, hem, rfl⟩ := hmem2 o ob hob
      obtain ⟨ob', h3, h4⟩ := hmem1 e hem
      rw [hob] at h3
      simp at h3; subst h3
      obtain ⟨o, tpl⟩ := e
      have hMo := hM _ hem
      cases tpl with
      | keep =>
        obtain ⟨ob2, h5, h6⟩ := hkO o hem
        have h4 : lk o σ0.sto = some ob := h4
        rw [h5] at h4
        simp at h4; subst h4
        simp only [actual1, h6] at hMo
        have hO := h.obj o ob2 h6
        cases ob2 with
        | arr m ver s xs =>
          refine ⟨hO.1, ?_⟩
          have := hO.2
          show ArrR G.S w B (mapM σ G.M A.obs o) m s xs
          rw [show mapM σ G.M A.obs o = _ from hMo]; exact this
        | cells fz cs =>
          obtain ⟨b, c, vs, ty, hm, hb, hh, ha, hs⟩ := hO
          have hcl := List.all_eq_true.1 hokO _ hem
          simp only [h5] at hcl
          exact ⟨b, c, vs, ty, hMo.trans hm, hb, hh, hover.crs hcl ha, hs⟩
      | arr m s =>
        obtain ⟨xs, rfl, h5⟩ := h4
        rcases h5 with ⟨ver, h5⟩ | ⟨h5, rfl, hmf, hpos⟩
        · have h5 : lk o σ.sto = _ := h5
          have hO := h.obj o _ h5
          simp only [actual1, h5] at hMo
          refine ⟨hO.1, ?_⟩
          show ArrR G.S w B (mapM σ G.M A.obs o) m s xs
          rw [show mapM σ G.M A.obs o = _ from hMo]; exact hO.2
        · have h5 : lk o σ.sto = none := h5
          simp only [actual1, h5] at hMo
          refine ⟨hpos, ?_⟩
          show ArrR G.S w B (mapM σ G.M A.obs o) m s []
          rw [show mapM σ G.M A.obs o = _ from hMo]; exact ⟨rfl, hmf⟩
      | cells ts =>
        obtain ⟨vs, z, y0, y', h5, hex, rfl⟩ := h4
        have h5 : lk o σ.sto = _ := h5
        simp only [actual1, h5] at hMo
        obtain ⟨b, c, us, ty, hm, hb, hh, ha, hs⟩ := h.obj o _ h5
        exact ⟨b, c, us, ty, hMo.trans hm, hb, hh, hC ha hex, hs⟩
      | via t ts =>
        obtain ⟨p, vs, z, y0, y', hp, h5, hex, rfl⟩ := h4
        simp only [actual1, hp, h5] at hMo
        obtain ⟨b, c, us, ty, hm, hb, hh, ha, hs⟩ := h.obj p _ h5
        exact ⟨b, c, us, ty, hMo.trans hm, hb, hh, hC ha hex, hs⟩
    · rw [hsto]
      intro o o' ob ob' b c c' hob hob' hm hm'
      obtain ⟨e, hem, rfl⟩ := hmem2 o ob hob
      obtain ⟨e', hem', rfl⟩ := hmem2 o' ob' hob'
      simp only at hm hm'
      have hm : mapM σ G.M A.obs e.1 = some (b, c) := hm
      have hm' : mapM σ G.M A.obs e'.1 = some (b, c') := hm'
      rw [hM e hem] at hm
      rw [hM e' hem'] at hm'
      split at hm
      · simp at hm
      · rename_i q hq
        split at hm'
        · simp at hm'
        · rename_i q' hq'
          have := h.inj _ _ q q' b c c' hq hq' hm hm'
          rw [nodup_inj hact hem hem' this]
  · simp at he

end
end Go.Pi
end

section
namespace Go.Pi
open Go.RowKit
set_option linter.unusedSimpArgs false
set_option linter.unusedVariables false

section
variable {P : Program} {C : Ctx} {S0 : Cells} {G G' : Gh} {outs : Outs} {σ σ' : St} {a a' : Act} {w w' w1 : World} {F : Nat → Prop} {lp : List (Nat × LSt)} {df : List Deferred}

theorem Held.rebase (h : Held C S0 outs lp df F w1) (hb : Bel F w1 w) (hlt : ∀ b, F b → b < w.heap.size) : Held C S0 outs lp df F w := by
  refine ⟨h.low, h.below.trans ((hb.mono (fun k (hk : k < C.B) => h.low k hk)).below), hlt, h.s0, ?_, fun D hD => ?_, fun l hl => ?_, h.ro, fun i s hs => ?_, h.ydom, h.yinj⟩
  · obtain ⟨Ds, e, hn, hD⟩ := h.dfr
    exact ⟨Ds, e, hn, fun D hm => by
      obtain ⟨h1, h2, h3, h4⟩ := hD D hm
      exact ⟨h1, h2, h3, (hb.block D h1).trans h4⟩⟩
  · obtain ⟨h1, h2, h3⟩ := h.dm D hD
    exact ⟨h1, h2, (hb.block D h1).trans h3⟩
  · obtain ⟨h1, r, h2⟩ := h.rds l hl
    exact ⟨h1, r, (hb.block l h1).trans h2⟩
  · obtain ⟨b, r, h1, h2, h3, h4, h5⟩ := h.lps i s hs
    exact ⟨b, r, h1, h2, h3, h4, (hb.block b h3).trans h5⟩

/-- The base may be the world as it is. -/
theorem RX.now (h : RX C S0 G outs σ a w) : ∃ F, Rel F w S0 G outs σ a w ∧ Held C S0 outs σ.lps a.defers F w := by
  obtain ⟨F, w1, hR, hH⟩ := h
  exact ⟨F, ⟨Bel.refl _ _, hR.bsz, hR.s0, hR.snew, hR.slt, hR.tml, hR.tm, hR.outl, hR.obj, hR.inj, hR.yeq⟩, hH.rebase hR.below hR.bsz⟩

theorem lpAt_set {i j : Nat} {s s' : LSt} : ∀ {l : List (Nat × LSt)}, lpAt j l = some s → lpAt i (setLp j s' l) = if i = j then some s' else lpAt i l
  | [], h => by simp [lpAt] at h
  | (k, t) :: r, h => by
    by_cases e : k = j
    · subst e
      simp only [setLp, if_true, lpAt]
      by_cases e2 : k = i
      · subst e2; simp
      · rw [if_neg e2, if_neg (Ne.symm e2)]
        simp [e2]
    · simp only [lpAt, if_neg e] at h
      simp only [setLp, if_neg e, lpAt]
      by_cases e2 : k = i
      · subst e2; simp [e]
      · rw [if_neg e2, if_neg e2]
        exact lpAt_set h

theorem recAt_parts (r : Loop) (s : LSt) : (recAt r s).fn = r.fn ∧ (recAt r s).params = r.params ∧ (recAt r s).tmps = r.tmps ∧ (recAt r s).assign = r.assign ∧ (recAt r s).body = r.body := by
  cases s <;> exact ⟨rfl, rfl, rfl, rfl, rfl⟩

/-- The record of a loop that is running. -/
theorem RX.rec (h : RX C S0 G outs σ a w) {i b : Nat} {s : LSt} {r : Loop} (hs : lpAt i σ.lps = some s) (hY : outs.Y i = some b) (hr : C.R i = some r) : w.heap[b]? = some (.loop (recAt r s)) := by
  obtain ⟨F, hR, hH⟩ := h.now
  obtain ⟨b', r', e1, e2, hFb, hBb, hbk⟩ := hH.lps i s hs
  rw [hY] at e1
  rw [hr] at e2
  simp only [Option.some.injEq] at e1 e2
  subst e1 e2
  exact hbk

/-- A record is turned. -/
theorem RX.setLp (h : RX C S0 G outs σ a w) {i b : Nat} {s : LSt} {r : Loop} (hs : lpAt i σ.lps = some s) (hY : outs.Y i = some b) (hr : C.R i = some r) (s' : LSt) :
    RX C S0 G outs { σ with lps := Pi.setLp i s' σ.lps } a (w.putObj b (.loop (recAt r s'))) := by
  have hrec := h.rec hs hY hr
  obtain ⟨F, hR, hH⟩ := h.now
  obtain ⟨b', r', e1, e2, hFb, hBb, hbk⟩ := hH.lps i s hs
  rw [hY] at e1
  rw [hr] at e2
  simp only [Option.some.injEq] at e1 e2
  subst e1 e2
  have hlt : b < w.heap.size := hR.bsz b hFb
  have hR2 := hR.fxPut hFb (fun b' o hs0 e => by have := hH.s0 b' o hs0; omega) (.loop (recAt r s'))
  have oth : ∀ k, k ≠ b → (w.putObj b (.loop (recAt r s'))).heap[k]? = w.heap[k]? := fun k hk => World.putObj_heap_other hk
  refine ⟨F, _, hR2.congr rfl rfl fun _ => rfl, ?_⟩
  refine ⟨hH.low, hH.below.trans ⟨rfl, rfl, rfl, by simp, fun k hk => oth k (by omega)⟩, fun k hk => by simpa using hH.lt k hk, hH.s0, ?_, fun D hD => ?_, fun l hl => ?_, hH.ro, fun j t ht => ?_, fun j b2 hb2 => ?_, hH.yinj⟩
  · obtain ⟨Ds, e, hn, hD⟩ := hH.dfr
    refine ⟨Ds, e, hn, fun D hm => ?_⟩
    obtain ⟨h1, h2, h3, h4⟩ := hD D hm
    exact ⟨h1, h2, h3, (oth D (fun e => by subst e; rw [hbk] at h4; cases h4)).trans h4⟩
  · obtain ⟨h1, h2, h3⟩ := hH.dm D hD
    exact ⟨h1, h2, (oth D (fun e => by subst e; rw [hbk] at h3; cases h3)).trans h3⟩
  · obtain ⟨h1, q, h2⟩ := hH.rds l hl
    refine ⟨h1, ?_⟩
    by_cases e : l = b
    · subst e; exact ⟨_, World.putObj_heap_same hlt⟩
    · exact ⟨q, (oth l e).trans h2⟩
  · have ht2 : lpAt j (Pi.setLp i s' σ.lps) = some t := ht
    rw [lpAt_set hs] at ht2
    by_cases e : j = i
    · rw [if_pos e] at ht2
      simp only [Option.some.injEq] at ht2
      subst ht2
      subst e
      exact ⟨b, r, hY, hr, hFb, hBb, World.putObj_heap_same hlt⟩
    · rw [if_neg e] at ht2
      obtain ⟨b2, r2, k1, k2, k3, k4, k5⟩ := hH.lps j t ht2
      exact ⟨b2, r2, k1, k2, k3, k4, (oth b2 (fun e' => by subst e'; exact e (hH.yinj j i _ k1 hY))).trans k5⟩
  · obtain ⟨t, ht⟩ := hH.ydom j b2 hb2
    show ∃ s, lpAt j (Pi.setLp i s' σ.lps) = some s
    rw [lpAt_set hs]
    by_cases e : j = i
    · exact ⟨s', by rw [if_pos e]⟩
    · exact ⟨t, by rw [if_neg e]; exact ht⟩

/-! ### frames -/
def Ctx.inner (C : Ctx) (Ds : List Nat) (ro : Option Nat) : Ctx := { C with dm := Ds ++ C.dm, rds := ro.toList ++ C.rds, ro := ro }

theorem RX.push (h : RX C S0 G outs σ a w) {tm' : List AV} {a' : Act} {dt' dob' : List Nat} {ro : Option Nat} (hd : a'.defers = []) (hl : tm'.length ≤ a'.tmps.size)
    (hv : ∀ t, VR G w (lks σ) (get tm' t) (a'.tmps.getD t Go.undef)) (hro : ∀ l, ro = some l → ∃ i s, lpAt i σ.lps = some s ∧ outs.Y i = some l) :
    ∃ Ds, a.defers = Ds.map mkD ∧ (∀ D ∈ Ds, D ∉ C.dm) ∧ Ds.Nodup ∧ (∀ l, C.ro = some l → l ∈ C.rds) ∧ RX (C.inner Ds ro) S0 G (outs.push a.tmps) { tm := tm', outs := σ.tm :: σ.outs, sto := σ.sto, dt := dt', dob := dob', lps := σ.lps } a' w := by
  obtain ⟨F, hR, hH⟩ := h.now
  obtain ⟨Ds, e, hn, hD⟩ := hH.dfr
  refine ⟨Ds, e, fun D hm => (hD D hm).2.2.1, hn, hH.ro, F, w, ?_, ?_⟩
  · exact ⟨hR.below, hR.bsz, hR.s0, hR.snew, hR.slt, hl, hv, ⟨⟨hR.tml, hR.tm⟩, hR.outl⟩, hR.obj, hR.inj, hR.yeq⟩
  · refine ⟨hH.low, hH.below, hH.lt, hH.s0, ⟨[], hd, List.nodup_nil, fun D hm => by simp at hm⟩, fun D hm => ?_, fun l hl => ?_, fun l hl => ?_, hH.lps, hH.ydom, hH.yinj⟩
    · rcases List.mem_append.1 hm with hm | hm
      · obtain ⟨h1, h2, h3, h4⟩ := hD D hm
        exact ⟨h1, h2, h4⟩
      · exact hH.dm D hm
    · rcases List.mem_append.1 hl with hl | hl
      · cases ro with
        | none => simp at hl
        | some q =>
          simp at hl
          subst hl
          obtain ⟨i, s, h1, h2⟩ := hro l rfl
          obtain ⟨b, r, k1, k2, k3, k4, k5⟩ := hH.lps i s h1
          rw [h2] at k1
          simp only [Option.some.injEq] at k1
          subst k1
          exact ⟨k3, _, k5⟩
      · exact hH.rds l hl
    · have hl : ro = some l := hl
      subst hl
      simp [Ctx.inner]

theorem RX.pop {Ds : List Nat} {ro : Option Nat} {tm0 : List AV} {outs0 : List (List AV)} {a'' : Act} {dt' dob' : List Nat} (hd : a.defers = Ds.map mkD) (hdm : ∀ D ∈ Ds, D ∉ C.dm) (hn : Ds.Nodup) (hro : ∀ l, C.ro = some l → l ∈ C.rds)
    (h : RX (C.inner Ds ro) S0 G (outs.push a.tmps) σ' a'' w) (ho : σ'.outs = tm0 :: outs0) :
    RX C S0 G outs { tm := tm0, outs := outs0, sto := σ'.sto, dt := dt', dob := dob', lps := σ'.lps } a w := by
  obtain ⟨F, hR, hH⟩ := h.now
  have houtl := hR.outl
  rw [ho] at houtl
  refine ⟨F, w, ⟨hR.below, hR.bsz, hR.s0, hR.snew, hR.slt, houtl.1.1, houtl.1.2, houtl.2, hR.obj, hR.inj, hR.yeq⟩, ?_⟩
  refine ⟨hH.low, hH.below, hH.lt, hH.s0, ⟨Ds, hd, hn, fun D hm => ?_⟩, fun D hm => hH.dm D (List.mem_append_right _ hm), fun l hl => hH.rds l (List.mem_append_right _ hl), hro, hH.lps, hH.ydom, hH.yinj⟩
  obtain ⟨h1, h2, h3⟩ := hH.dm D (List.mem_append_left _ hm)
  exact ⟨h1, h2, hdm D hm, h3⟩

/-- What is marked is taken, at a function's end. -/
theorem leaves_marks {fn : Func} {R : Ending → World → Prop} : ∀ (Ds : List Nat) {a : Act} {w : World}, RX C S0 G outs σ a w → a.defers = Ds.map mkD →
    (∀ w', RX C S0 G outs σ { a with defers := [] } w' → ∃ v, (Go.results fn a.tmps).run P w' = .ok v w' ∧ R (.returned v) w') → LeavesInM Fence.wide 0 P fn a.tmps R (Ds.map mkD) .returning w
  | [], a, w, h, hd, hk => by
    have : a = { a with defers := [] } := by cases a; simp at hd; simp [hd]
    exact hk w (this ▸ h)
  | D :: Ds, a, w, h, hd, hk => by
    obtain ⟨F, hR, hH⟩ := h.now
    obtain ⟨Es, e, hn, hD⟩ := hH.dfr
    have hE : Es = D :: Ds := by
      rw [hd] at e
      have inj : ∀ {x y : List Nat}, x.map mkD = y.map mkD → x = y := by
        intro x
        induction x with
        | nil => intro y h; cases y <;> simp_all
        | cons p q ih => intro y h; cases y with
          | nil => simp at h
          | cons u v =>
            simp only [List.map_cons, List.cons.injEq] at h
            have : p = u := by simpa [mkD] using h.1
            rw [this, ih h.2]
      exact (inj e).symm
    subst hE
    obtain ⟨hFD, hBD, hmD, hkD⟩ := hD D (by simp)
    refine ⟨by simp, .inl ⟨D, _, rfl, run_takeDeferred hkD, ?_⟩⟩
    have hlt : D < w.heap.size := hR.bsz D hFD
    have oth : ∀ k, k ≠ D → (w.putObj D (.deferred none)).heap[k]? = w.heap[k]? := fun k hk => World.putObj_heap_other hk
    have h2 : RX C S0 G outs σ { a with defers := Ds.map mkD } (w.putObj D (.deferred none)) := by
      have hR2 := hR.fxPut hFD (fun b' o hs0 e => by have := hH.s0 b' o hs0; omega) (.deferred none)
      refine ⟨F, _, ⟨hR2.below, hR2.bsz, hR2.s0, hR2.snew, hR2.slt, hR2.tml, hR2.tm, hR2.outl, hR2.obj, hR2.inj, hR2.yeq⟩, ?_⟩
      have hn2 := List.nodup_cons.1 hn
      refine ⟨hH.low, hH.below.trans ⟨rfl, rfl, rfl, by simp, fun k hk => oth k (by omega)⟩, fun k hk => by simpa using hH.lt k hk, hH.s0, ⟨Ds, rfl, hn2.2, fun E hm => ?_⟩, fun E hm => ?_, fun l hl => ?_, hH.ro, fun j t ht => ?_, hH.ydom, hH.yinj⟩
      · obtain ⟨h1, h2, h3, h4⟩ := hD E (by simp [hm])
        exact ⟨h1, h2, h3, (oth E (fun e => by subst e; exact hn2.1 hm)).trans h4⟩
      · obtain ⟨h1, h2, h3⟩ := hH.dm E hm
        exact ⟨h1, h2, (oth E (fun e => by subst e; exact hmD hm)).trans h3⟩
      · obtain ⟨h1, q, h2⟩ := hH.rds l hl
        exact ⟨h1, q, (oth l (fun e => by subst e; rw [hkD] at h2; cases h2)).trans h2⟩
      · obtain ⟨b2, r2, k1, k2, k3, k4, k5⟩ := hH.lps j t ht
        exact ⟨b2, r2, k1, k2, k3, k4, (oth b2 (fun e => by subst e; rw [hkD] at k5; cases k5)).trans k5⟩
    exact leaves_marks Ds (a := { a with defers := Ds.map mkD }) h2 rfl hk

/-! ### entering and leaving a loop -/
def updN {α : Type} (f : Nat → Option α) (i : Nat) (x : α) (j : Nat) : Option α := if j = i then some x else f j

theorem RX.enter (h : RX C S0 G outs σ a w) {i : Nat} (hn : σ.noY i = true) (hlp : lpAt i σ.lps = none) (fn : FuncId) (ps : Array Tmp) (asg body : Code) :
    ∃ l mark W r, (Instr.enterLoop fn a.tmps ps asg body (Fw C.ro).round).run P w = .ok (l, mark) W ∧ r.fn = fn ∧ r.params = ps ∧ r.tmps = a.tmps ∧ r.assign = asg ∧ r.body = body ∧
      RX { C with R := updN C.R i r } S0 { G with Y := updN outs.Y i l } { outs with Y := updN outs.Y i l } { σ with lps := (i, .ready) :: σ.lps } { a with defers := mark ++ a.defers } W := by
  obtain ⟨F, hR, hH⟩ := h.now
  have hYi : outs.Y i = none := by
    cases e : outs.Y i with
    | none => rfl
    | some b => obtain ⟨s, hs⟩ := hH.ydom i b e; rw [hlp] at hs; cases hs
  -- a block more for the record
  have fin : ∀ (F1 : Nat → Prop) (W0 : World) (mark : List Deferred) (r : Loop), Rel F1 W0 S0 G outs σ a W0 → Held C S0 outs σ.lps (mark ++ a.defers) F1 W0 → r.state = .ready → r.pending = none →
      RX { C with R := updN C.R i r } S0 { G with Y := updN outs.Y i W0.heap.size } { outs with Y := updN outs.Y i W0.heap.size } { σ with lps := (i, .ready) :: σ.lps } { a with defers := mark ++ a.defers } (W0.alloc (.loop r)) := by
    intro F1 W0 mark r hR1 hH1 hst hpe
    have hR2 := hR1.fxAlloc (.loop r)
    have hR3 := hR2.setY hn (Y' := updN outs.Y i W0.heap.size) (fun j hj => by simp [updN, hj])
    have old : ∀ k, k < W0.heap.size → (W0.alloc (.loop r)).heap[k]? = W0.heap[k]? := fun k hk => Below.heap_alloc W0 _ k hk
    refine ⟨_, _, ⟨hR3.below, hR3.bsz, hR3.s0, hR3.snew, hR3.slt, hR3.tml, hR3.tm, hR3.outl, hR3.obj, hR3.inj, hR3.yeq⟩, ?_⟩
    refine ⟨fun b hb => .inl (hH1.low b hb), hH1.below.alloc (by
        rcases Nat.lt_or_ge W0.heap.size C.B with hlt | hge
        · have := hH1.lt _ (hH1.low _ hlt); omega
        · exact hge) _, fun b hb => ?_, hH1.s0, ?_, fun D hm => ?_, fun l hl => ?_, hH1.ro, fun j s hs => ?_, fun j b hb => ?_, fun j j' b hb hb' => ?_⟩
    · rcases hb with hb | rfl
      · have := hH1.lt b hb; simp; omega
      · simp
    · obtain ⟨Ds, e, hnd, hD⟩ := hH1.dfr
      refine ⟨Ds, e, hnd, fun D hm => ?_⟩
      obtain ⟨h1, h2, h3, h4⟩ := hD D hm
      exact ⟨.inl h1, h2, h3, (old D (hH1.lt D h1)).trans h4⟩
    · obtain ⟨h1, h2, h3⟩ := hH1.dm D hm
      exact ⟨.inl h1, h2, (old D (hH1.lt D h1)).trans h3⟩
    · obtain ⟨h1, q, h2⟩ := hH1.rds l hl
      exact ⟨.inl h1, q, (old l (hH1.lt l h1)).trans h2⟩
    · have hs2 : lpAt j ((i, .ready) :: σ.lps) = some s := hs
      simp only [lpAt] at hs2
      by_cases e : i = j
      · rw [if_pos e] at hs2
        simp only [Option.some.injEq] at hs2
        subst hs2
        subst e
        refine ⟨W0.heap.size, r, by simp [updN], by simp [updN], .inr rfl, ?_, ?_⟩
        · rcases Nat.lt_or_ge W0.heap.size C.B with hlt | hge
          · have := hH1.lt _ (hH1.low _ hlt); omega
          · exact hge
        · rw [World.alloc_heap_new]
          obtain ⟨_, _, _, _, _, _, _, _⟩ := r
          simp only at hst hpe
          subst hst hpe
          rfl
      · rw [if_neg e] at hs2
        obtain ⟨b, q, k1, k2, k3, k4, k5⟩ := hH1.lps j s hs2
        exact ⟨b, q, by simp [updN, Ne.symm e, k1], by simp [updN, Ne.symm e, k2], .inl k3, k4, (old b (hH1.lt b k3)).trans k5⟩
    · have hb : updN outs.Y i W0.heap.size j = some b := hb
      show ∃ s, lpAt j ((i, .ready) :: σ.lps) = some s
      simp only [updN] at hb
      split at hb
      · rename_i e
        subst e
        exact ⟨.ready, by simp [lpAt]⟩
      · rename_i e
        obtain ⟨s, hs⟩ := hH1.ydom j b hb
        exact ⟨s, by simp [lpAt, Ne.symm e, hs]⟩
    · have hb : updN outs.Y i W0.heap.size j = some b := hb
      have hb' : updN outs.Y i W0.heap.size j' = some b := hb'
      have big : ∀ q, outs.Y q = some W0.heap.size → False := fun q hq => by
        obtain ⟨s, hs⟩ := hH1.ydom q _ hq
        obtain ⟨b2, q2, k1, k2, k3, k4, k5⟩ := hH1.lps q s hs
        rw [hq] at k1
        simp only [Option.some.injEq] at k1
        subst k1
        exact Nat.lt_irrefl _ (hH1.lt _ k3)
      simp only [updN] at hb hb'
      split at hb
      · rename_i e
        simp only [Option.some.injEq] at hb
        subst hb
        split at hb'
        · rename_i e'; exact e.trans e'.symm
        · exact (big _ hb').elim
      · split at hb'
        · simp only [Option.some.injEq] at hb'
          subst hb'
          exact (big _ hb).elim
        · exact hH1.yinj j j' b hb hb'
  have hro : C.ro = none ∨ ∃ l0, C.ro = some l0 := by cases C.ro <;> simp
  rcases hro with hro | ⟨l0, hro⟩
  · obtain ⟨r, hr⟩ : ∃ r : Loop, r = { state := .ready, pending := none, fn := fn, tmps := a.tmps, params := ps, assign := asg, body := body, defers := w.heap.size } := ⟨_, rfl⟩
    refine ⟨w.heap.size + 1, [mkD w.heap.size], (w.alloc (.deferred (some []))).alloc (.loop r), r, ?_, by rw [hr], by rw [hr], by rw [hr], by rw [hr], by rw [hr], ?_⟩
    · show (Instr.enterLoop fn a.tmps ps asg body C.ro).run P w = _
      rw [hro, hr]
      exact run_enterLoop_outer _ _ _ _ _
    have hR1 := hR.fxAlloc (.deferred (some []))
    have old : ∀ k, k < w.heap.size → (w.alloc (.deferred (some []))).heap[k]? = w.heap[k]? := fun k hk => Below.heap_alloc w _ k hk
    have hBw : C.B ≤ w.heap.size := by
      rcases Nat.lt_or_ge w.heap.size C.B with hlt | hge
      · have := hH.lt _ (hH.low _ hlt); omega
      · exact hge
    have hH1 : Held C S0 outs σ.lps ([mkD w.heap.size] ++ a.defers) (fun b => F b ∨ b = w.heap.size) (w.alloc (.deferred (some []))) := by
      refine ⟨fun b hb => .inl (hH.low b hb), hH.below.alloc hBw _, hR1.bsz, hH.s0, ?_, fun D hm => ?_, fun l hl => ?_, hH.ro, fun j s hs => ?_, hH.ydom, hH.yinj⟩
      · obtain ⟨Ds, e, hnd, hD⟩ := hH.dfr
        refine ⟨w.heap.size :: Ds, by simp [e], List.nodup_cons.2 ⟨fun hm => Nat.lt_irrefl _ (hH.lt _ (hD _ hm).1), hnd⟩, fun D hm => ?_⟩
        rcases List.mem_cons.1 hm with rfl | hm
        · exact ⟨.inr rfl, hBw, fun hm => Nat.lt_irrefl _ (hH.lt _ (hH.dm _ hm).1), World.alloc_heap_new w _⟩
        · obtain ⟨h1, h2, h3, h4⟩ := hD D hm
          exact ⟨.inl h1, h2, h3, (old D (hH.lt D h1)).trans h4⟩
      · obtain ⟨h1, h2, h3⟩ := hH.dm D hm
        exact ⟨.inl h1, h2, (old D (hH.lt D h1)).trans h3⟩
      · obtain ⟨h1, q, h2⟩ := hH.rds l hl
        exact ⟨.inl h1, q, (old l (hH.lt l h1)).trans h2⟩
      · obtain ⟨b, q, k1, k2, k3, k4, k5⟩ := hH.lps j s hs
        exact ⟨b, q, k1, k2, .inl k3, k4, (old b (hH.lt b k3)).trans k5⟩
    have := fin _ _ [mkD w.heap.size] r hR1 hH1 (by rw [hr]) (by rw [hr])
    simpa using this
  · obtain ⟨h1, r0, h2⟩ := hH.rds l0 (hH.ro l0 hro)
    obtain ⟨r, hr⟩ : ∃ r : Loop, r = { state := .ready, pending := none, fn := fn, tmps := a.tmps, params := ps, assign := asg, body := body, defers := r0.defers } := ⟨_, rfl⟩
    refine ⟨w.heap.size, [], w.alloc (.loop r), r, ?_, by rw [hr], by rw [hr], by rw [hr], by rw [hr], by rw [hr], fin F w [] r hR (by simpa using hH) (by rw [hr]) (by rw [hr])⟩
    show (Instr.enterLoop fn a.tmps ps asg body C.ro).run P w = _
    rw [hro, hr]
    exact run_enterLoop_inner h2 _ _ _ _ _

theorem RX.leave {i l : Nat} {st : LSt} {r : Loop} {rest : List (Nat × LSt)} (h : RX { C with R := updN C.R i r } S0 G { outs with Y := updN outs.Y i l } σ a w) (hl : σ.lps = (i, st) :: rest) (hst : st ≠ .busy) (hrest : lpAt i rest = none) (hYi : outs.Y i = none) :
    (Instr.endLoop l).run P w = .ok (recAt r st).pending (w.putObj l (.loop { recAt r st with state := .exhausted })) ∧
      RX C S0 { G with Y := outs.Y } outs { σ with lps := rest } a (w.putObj l (.loop { recAt r st with state := .exhausted })) := by
  have hrec := h.rec (i := i) (b := l) (s := st) (r := r) (by rw [hl]; simp [lpAt]) (by simp [updN]) (by simp [updN])
  refine ⟨run_endLoop hrec (by cases st <;> simp_all [recAt]), ?_⟩
  obtain ⟨F, hR, hH⟩ := h.now
  obtain ⟨b', r', e1, e2, hFl, hBl, hbk⟩ := hH.lps i st (by rw [hl]; simp [lpAt])
  have e1 : updN outs.Y i l i = some b' := e1
  simp only [updN, if_true, Option.some.injEq] at e1
  subst e1
  have hlt : l < w.heap.size := hR.bsz l hFl
  have hR2 := hR.fxPut hFl (fun b' o hs0 e => by have := hH.s0 b' o hs0; have : C.B ≤ l := hBl; have : b' < C.B := hH.s0 b' o hs0; omega) (.loop { recAt r st with state := .exhausted })
  have hR3 := hR2.lessY (Y' := outs.Y) (fun j b hb => by
    show updN outs.Y i l j = some b
    simp only [updN]
    rw [if_neg (fun e => by subst e; rw [hYi] at hb; cases hb)]
    exact hb)
  have oth : ∀ k, k ≠ l → (w.putObj l (.loop { recAt r st with state := .exhausted })).heap[k]? = w.heap[k]? := fun k hk => World.putObj_heap_other hk
  refine ⟨F, _, ⟨hR3.below, hR3.bsz, hR3.s0, hR3.snew, hR3.slt, hR3.tml, hR3.tm, hR3.outl, hR3.obj, hR3.inj, hR3.yeq⟩, ?_⟩
  refine ⟨hH.low, hH.below.trans ⟨rfl, rfl, rfl, by simp, fun k hk => oth k (by have : C.B ≤ l := hBl; have : k < C.B := hk; omega)⟩, fun k hk => by simpa using hH.lt k hk, hH.s0, ?_, fun D hD => ?_, fun l' hl' => ?_, hH.ro, fun j t ht => ?_, fun j b2 hb2 => ?_, fun j j' b hb hb' => ?_⟩
  · obtain ⟨Ds, e, hn, hD⟩ := hH.dfr
    refine ⟨Ds, e, hn, fun D hm => ?_⟩
    obtain ⟨h1, h2, h3, h4⟩ := hD D hm
    exact ⟨h1, h2, h3, (oth D (fun e => by subst e; rw [hbk] at h4; cases h4)).trans h4⟩
  · obtain ⟨h1, h2, h3⟩ := hH.dm D hD
    exact ⟨h1, h2, (oth D (fun e => by subst e; rw [hbk] at h3; cases h3)).trans h3⟩
  · obtain ⟨h1, q, h2⟩ := hH.rds l' hl'
    refine ⟨h1, ?_⟩
    by_cases e : l' = l
    · subst e; exact ⟨_, World.putObj_heap_same hlt⟩
    · exact ⟨q, (oth l' e).trans h2⟩
  · have ht : lpAt j rest = some t := ht
    have hji : j ≠ i := fun e => by subst e; rw [hrest] at ht; cases ht
    obtain ⟨b2, r2, k1, k2, k3, k4, k5⟩ := hH.lps j t (by rw [hl]; simp [lpAt, Ne.symm hji, ht])
    have k1' : updN outs.Y i l j = some b2 := k1
    have k2' : updN C.R i r j = some r2 := k2
    simp only [updN, if_neg hji] at k1' k2'
    refine ⟨b2, r2, k1', k2', k3, k4, (oth b2 (fun e => ?_)).trans k5⟩
    exact hji (hH.yinj j i l (e ▸ k1) (by simp [updN]))
  · have hji : j ≠ i := fun e => by subst e; rw [hYi] at hb2; cases hb2
    obtain ⟨s, hs⟩ := hH.ydom j b2 (show updN outs.Y i l j = some b2 by simp only [updN, if_neg hji]; exact hb2)
    rw [hl] at hs
    simp only [lpAt, if_neg (Ne.symm hji)] at hs
    exact ⟨s, hs⟩
  · have hji : j ≠ i := fun e => by subst e; rw [hYi] at hb; cases hb
    have hji' : j' ≠ i := fun e => by subst e; rw [hYi] at hb'; cases hb'
    exact hH.yinj j j' b (show updN outs.Y i l j = some b by simp only [updN, if_neg hji]; exact hb) (show updN outs.Y i l j' = some b by simp only [updN, if_neg hji']; exact hb')

/-! ### a round's first state -/
theorem setPs_rel {w : World} {look : Look} : ∀ {ts : List Tmp} {avs : List AV} {args : List Value} {tm : List AV} {arr : Array Value}, All2 (VR G w look) avs args → tm.length ≤ arr.size → (∀ t, VR G w look (get tm t) (arr.getD t Go.undef)) →
    (setPs ts avs tm).length ≤ ((ts.zip args).foldl (fun tmps (q : Tmp × Value) => tmps.setIfInBounds q.1 q.2) arr).size ∧ ∀ t, VR G w look (get (setPs ts avs tm) t) (((ts.zip args).foldl (fun tmps (q : Tmp × Value) => tmps.setIfInBounds q.1 q.2) arr).getD t Go.undef)
  | [], avs, args, tm, arr, hv, hl, h => by
    cases avs <;> exact ⟨hl, h⟩
  | t :: ts, [], args, tm, arr, hv, hl, h => by
    cases args with
    | nil => exact ⟨hl, h⟩
    | cons _ _ => exact hv.elim
  | t :: ts, v :: avs, args, tm, arr, hv, hl, h => by
    cases args with
    | nil => exact hv.elim
    | cons u us =>
      simp only [setPs, List.zip_cons_cons, List.foldl_cons]
      refine setPs_rel hv.2 (by simpa using hl) fun t' => ?_
      rw [get_set]
      by_cases e : t' = t
      · subst e
        by_cases hlt : t' < tm.length
        · rw [if_pos ⟨rfl, hlt⟩]
          have : (arr.setIfInBounds t' u).getD t' Go.undef = u := by simp [Array.getD_eq_getD_getElem?, Array.getElem?_setIfInBounds, show t' < arr.size by omega]
          rw [this]; exact hv.1
        · rw [if_neg (fun q => hlt q.2)]
          have : get tm t' = .undef := by simp [get, List.getD_eq_getElem?_getD, List.getElem?_eq_none (Nat.le_of_not_lt hlt)]
          rw [this]; simp only [VR, VR1, VR0]
      · rw [if_neg (fun q => e q.1)]
        have : (arr.setIfInBounds t u).getD t' Go.undef = arr.getD t' Go.undef := by simp [Array.getD_eq_getD_getElem?, Array.getElem?_setIfInBounds, Ne.symm e]
        rw [this]; exact h t'

theorem frame_rel {w : World} {look : Look} {l : List (List AV)} {m : List (Array Value)} (k : Nat) {tm : List AV} {arr : Array Value} (h : All2 (fun (l : List AV) (arr : Array Value) => l.length ≤ arr.size ∧ ∀ t, VR G w look (get l t) (arr.getD t Go.undef)) l m)
    (h1 : l[k]? = some tm) (h2 : m[k]? = some arr) : tm.length ≤ arr.size ∧ ∀ t, VR G w look (get tm t) (arr.getD t Go.undef) := by
  obtain ⟨b, hb, hr⟩ := All2.get h k tm h1
  rw [h2] at hb
  simp only [Option.some.injEq] at hb
  subst hb
  exact hr
end
end Go.Pi
end

section
namespace Go.Pi
open Go.RowKit
set_option linter.unusedSimpArgs false
set_option linter.unusedVariables false

section
variable {P : Program} {B : Nat → Prop} {w0 : World} {S0 : Cells} {G G' : Gh} {outs : Outs} {σ : St} {a : Act} {w w' : World} {o : Oper}
variable {K : Act → World → Prop} {Q : Exit → Act → World → Prop} {E : Env} {inl : Inl}

def exOf : Ex → Exit
  | .normal => .normal
  | .exit i => .exit i
  | .ret => .ret

/-- Statements that draw their order. -/
def DrawOK (P : Program) (E : Env) : Prop :=
  ∀ (ro : Option Nat) (B : Nat → Prop) (w0 : World) (S0 : Cells) (outs : Outs) (G : Gh) (σ : St) (a : Act) (w : World) (Q : Exit → Act → World → Prop) (own : List Nat) (path rid : Nat) (ops : Array Oper) (k : St → Prop),
    Rel B w0 S0 G outs σ a w → drawOk ops = true → goD P E own path rid ops.size (befores ops.toList []) ops ops.toList 0 (fun X => X) σ k →
    (∀ σ' G' a' w', Pres σ σ' → Rel B w0 S0 G' outs σ' a' w' → a'.defers = a.defers → σ'.lps = σ.lps → k σ' → Q .normal a' w') → (Code.region rid ops true).wpIn (Fw ro) 0 P Q a w

/-! ### what is kept at a loop -/
/-- The slots at a loop's head: data, or as at the entry, or nothing. -/
theorem mkT_get {σ0 : St} {obs : List (Nat × OTpl)} : ∀ {tms : List (Nat × Tpl)} {v : (schT tms obs).D} {tm : List AV} (t : Nat),
    t ∈ dataT tms ∨ get (mkT σ0 tms obs v tm).1 t = get σ0.tm t ∨ get (mkT σ0 tms obs v tm).1 t = get tm t
  | [], v, tm, t => .inr (.inr rfl)
  | (u, tpl) :: r, v, tm, t => by
    have rest : ∀ (av : AV) (v' : (schT r obs).D), (t ∈ dataT r ∨ get (mkT σ0 r obs v' (tm.set u av)).1 t = get σ0.tm t ∨ get (mkT σ0 r obs v' (tm.set u av)).1 t = get (tm.set u av) t) →
        t ∈ dataT r ∨ get (mkT σ0 r obs v' (tm.set u av)).1 t = get σ0.tm t ∨ get (mkT σ0 r obs v' (tm.set u av)).1 t = get tm t ∨ (t = u ∧ get (mkT σ0 r obs v' (tm.set u av)).1 t = av) := by
      intro av v' h
      rcases h with h | h | h
      · exact .inl h
      · exact .inr (.inl h)
      · rw [get_set] at h
        split at h
        · rename_i e; exact .inr (.inr (.inr ⟨e.1, h⟩))
        · exact .inr (.inr (.inl h))
    cases tpl with
    | data ag s =>
      rcases rest (encTy (ag, s) v.1) v.2 (mkT_get t) with h | h | h | h
      · exact .inl (.tail _ h)
      · exact .inr (.inl h)
      · exact .inr (.inr h)
      · exact .inl (h.1 ▸ .head _)
    | keep =>
      rcases rest (get σ0.tm u) v (mkT_get t) with h | h | h | h
      · exact .inl h
      · exact .inr (.inl h)
      · exact .inr (.inr h)
      · exact .inr (.inl (by rw [h.1]; exact h.1 ▸ h.2))
    | ref o =>
      rcases rest (.ref o 0) v (mkT_get t) with h | h | h | h
      · exact .inl (.tail _ h)
      · exact .inr (.inl h)
      · exact .inr (.inr h)
      · exact .inl (h.1 ▸ .head _)
    | ptr o =>
      rcases rest (.ptr o 0) v (mkT_get t) with h | h | h | h
      · exact .inl (.tail _ h)
      · exact .inr (.inl h)
      · exact .inr (.inr h)
      · exact .inl (h.1 ▸ .head _)

theorem mkT_len {σ0 : St} {obs : List (Nat × OTpl)} : ∀ {tms : List (Nat × Tpl)} {v : (schT tms obs).D} {tm : List AV}, (mkT σ0 tms obs v tm).1.length = tm.length
  | [], v, tm => rfl
  | (u, .data ag s) :: r, v, tm => (mkT_len (tms := r)).trans (List.length_set ..)
  | (u, .keep) :: r, v, tm => (mkT_len (tms := r)).trans (List.length_set ..)
  | (u, .ref o) :: r, v, tm => (mkT_len (tms := r)).trans (List.length_set ..)
  | (u, .ptr o) :: r, v, tm => (mkT_len (tms := r)).trans (List.length_set ..)

theorem mkO_get {σ0 : St} : ∀ {obs : List (Nat × OTpl)} {y : (schO obs).D} {o : Nat} {ob : Ob}, lk o (mkO σ0 obs y) = some ob → o ∈ dataO obs ∨ lk o σ0.sto = some ob
  | [], y, o, ob, h => by simp [mkO, lk] at h
  | (p, tpl) :: r, y, o, ob, h => by
    have hd : ∀ {ob' : Ob} {l : List (Nat × Ob)}, lk o ((p, ob') :: l) = some ob → (p = o) ∨ lk o l = some ob := by
      intro ob' l h
      simp only [lk] at h
      split at h
      · rename_i e; exact .inl e
      · exact .inr h
    cases tpl with
    | keep =>
      simp only [mkO] at h
      split at h
      · rename_i ob' hob'
        simp only [lk] at h
        split at h
        · rename_i e
          subst e
          simp at h; subst h
          exact .inr hob'
        · exact mkO_get (obs := r) h
      · exact mkO_get (obs := r) h
    | arr m s =>
      rcases hd h with rfl | h
      · exact .inl (.head _)
      · exact (mkO_get (obs := r) h).imp (.tail _) id
    | cells l =>
      rcases hd h with rfl | h
      · exact .inl (.head _)
      · exact (mkO_get (obs := r) h).imp (.tail _) id
    | via t l =>
      rcases hd h with rfl | h
      · exact .inl (.head _)
      · exact (mkO_get (obs := r) h).imp (.tail _) id

theorem mkT_snd {σ0 : St} {obs : List (Nat × OTpl)} : ∀ {tms : List (Nat × Tpl)} {v : (schT tms obs).D} {tm : List AV}, ∃ y, (mkT σ0 tms obs v tm).2 = mkO σ0 obs y
  | [], v, tm => ⟨v, rfl⟩
  | (u, .data ag s) :: r, v, tm => mkT_snd (tms := r)
  | (u, .keep) :: r, v, tm => mkT_snd (tms := r)
  | (u, .ref o) :: r, v, tm => mkT_snd (tms := r)
  | (u, .ptr o) :: r, v, tm => mkT_snd (tms := r)

/-- From the loop's entry to wherever it is left. -/
theorem Pres.after {A : LAnn} {σ σ' : St} {v : A.S.D} (h : Pres (A.mk' σ v) σ') : Pres σ (A.after σ σ') := by
  have hundef : ∀ t, get (List.replicate σ.tm.length AV.undef) t = .undef := fun t => by
    simp only [get, List.getD_eq_getElem?_getD, List.getElem?_replicate]
    split <;> rfl
  refine ⟨fun t => ?_, fun t ht => List.mem_append_right _ (List.mem_append_right _ ht), fun o => ?_, fun o ho => List.mem_append_right _ (List.mem_append_right _ ho), h.outs, ?_⟩
  · rcases h.tm t with h1 | h1 | h1
    · exact .inl (List.mem_append_left _ h1)
    · rcases mkT_get (σ0 := σ) (tms := A.tms) (obs := A.obs) (v := v) (tm := List.replicate σ.tm.length .undef) t with h2 | h2 | h2
      · exact .inl (List.mem_append_right _ (List.mem_append_left _ h2))
      · exact .inr (.inl (h1.trans h2))
      · exact .inr (.inr (h1.trans (h2.trans (hundef t))))
    · exact .inr (.inr h1)
  · rcases h.ob o with h1 | h1
    · exact .inl (List.mem_append_left _ h1)
    · by_cases hd : o ∈ dataO A.obs
      · exact .inl (List.mem_append_right _ (List.mem_append_left _ hd))
      · refine .inr fun ob hob => ?_
        have h2 := h1 ob hob
        obtain ⟨y, hy⟩ := mkT_snd (σ0 := σ) (tms := A.tms) (obs := A.obs) (v := v) (tm := List.replicate σ.tm.length .undef)
        have h2 : lk o (mkT σ A.tms A.obs v (List.replicate σ.tm.length .undef)).2 = some ob := h2
        rw [hy] at h2
        rcases mkO_get h2 with h3 | h3
        · exact (hd h3).elim
        · exact h3
  · have : (A.mk' σ v).tm.length = σ.tm.length := by
      show (mkT σ A.tms A.obs v (List.replicate σ.tm.length .undef)).1.length = _
      rw [mkT_len]; simp
    exact h.len.trans this

/-- What is kept, behind a round. -/
theorem mkT_keep {σ0 : St} {obs : List (Nat × OTpl)} {t : Nat} : ∀ {tms : List (Nat × Tpl)} {v : (schT tms obs).D} {tm : List AV}, t ∉ dataT tms → get tm t = get σ0.tm t → get (mkT σ0 tms obs v tm).1 t = get σ0.tm t
  | [], v, tm, _, h => h
  | (u, tpl) :: r, v, tm, hn, h => by
    have rest : ∀ av, (t = u → av = get σ0.tm u) → get (tm.set u av) t = get σ0.tm t := fun av ha => by
      rw [get_set]
      split
      · rename_i e; rw [ha e.1, e.1]
      · exact h
    cases tpl with
    | data ag s => simp only [dataT, List.mem_cons, not_or] at hn; exact mkT_keep (tms := r) hn.2 (rest _ fun e => (hn.1 e).elim)
    | keep => exact mkT_keep (tms := r) hn (rest _ fun _ => rfl)
    | ref o => simp only [dataT, List.mem_cons, not_or] at hn; exact mkT_keep (tms := r) hn.2 (rest _ fun e => (hn.1 e).elim)
    | ptr o => simp only [dataT, List.mem_cons, not_or] at hn; exact mkT_keep (tms := r) hn.2 (rest _ fun e => (hn.1 e).elim)

end
end Go.Pi
end
