/- Typed data in the machine's memory, an evaluator of loaded code over it, and its proof, part 2. -/
import Derived.Test.YtdhekhichomoiaaPiA
import Derived.Lib.AppendZeros
import Derived.Scope

section
namespace Go.Pi
open Go.RowKit
set_option linter.unusedSimpArgs false
set_option linter.unusedVariables false

section
variable {P : Program} {B : Nat} {w0 : World} {S0 : Cells} {G G' : Gh} {outs : List (Array Value)} {σ : St} {a : Act} {w w' : World} {o : Oper} {look : Look}

theorem DRN.nil {S : Cells} {s : Sch} : DRN S w s [] [] := ⟨by simp, fun i x hx => by simp at hx⟩

theorem DRN.cons {S : Cells} {s : Sch} {x : s.D} {xs : List s.D} {ws vs : List Value} (h : DR S w s x ws) (h' : DRN S w s xs vs) : DRN S w s (x :: xs) (ws ++ vs) := by
  have hl := h.length
  refine ⟨by simp [hl, h'.1, Nat.add_mul]; omega, fun i y hy => ?_⟩
  cases i with
  | zero =>
    simp at hy; subst hy
    have : ((ws ++ vs).drop (0 * s.size)).take s.size = ws := by simp [← hl]
    rw [this]; exact h
  | succ i =>
    have h4 := h'.2 i y (by simpa using hy)
    have h5 : (i + 1) * s.size = ws.length + i * s.size := by rw [hl, Nat.add_mul]; omega
    have e3 : (ws ++ vs).drop ((i + 1) * s.size) = vs.drop (i * s.size) := by
      rw [h5, List.drop_append, List.drop_eq_nil_of_le (by omega)]
      simp
    rw [e3]; exact h4

theorem DRN.append {S : Cells} {s : Sch} : ∀ {xs ys : List s.D} {us vs : List Value}, DRN S w s xs us → DRN S w s ys vs → DRN S w s (xs ++ ys) (us ++ vs)
  | [], ys, us, vs, h, h' => by
    have : us = [] := List.eq_nil_of_length_eq_zero (by simpa using h.1)
    subst this
    exact h'
  | x :: xs, ys, us, vs, h, h' => by
    have h1 := h.2 0 x rfl
    simp only [Nat.zero_mul, List.drop_zero] at h1
    have h2 : DRN S w s xs (us.drop s.size) := by
      refine ⟨by rw [List.length_drop, h.1]; simp [Nat.add_mul], fun i y hy => ?_⟩
      have h3 := h.2 (i + 1) y (by simpa using hy)
      rw [List.drop_drop]
      rwa [show s.size + i * s.size = (i + 1) * s.size by rw [Nat.add_mul]; omega]
    have h3 := DRN.cons h1 (DRN.append h2 h')
    rwa [← List.append_assoc, List.take_append_drop] at h3

/-- The cells of a slice's elements. -/
theorem ElR.cells {S : Cells} {s : Sch} {b : Nat} : ∀ {xs : List s.D} {off : Nat}, ElR S w s xs b off → ∃ vs, DRN S w s xs vs ∧ ∀ (j : Nat) (v : Value), vs[j]? = some v → S b (off + j) ∧ w.cell? ⟨b, off + j, none⟩ = some v
  | [], off, h => ⟨[], DRN.nil, fun j v hv => by simp at hv⟩
  | x :: xs, off, h => by
    obtain ⟨ws, hd, hw⟩ := h 0 x rfl
    have h2 : ElR S w s xs b (off + s.size) := by
      intro i y hy
      obtain ⟨ws, hd, hw⟩ := h (i + 1) y (by simpa using hy)
      refine ⟨ws, hd, fun j v hv => ?_⟩
      have := hw j v hv
      rwa [show off + (i + 1) * s.size + j = off + s.size + i * s.size + j by rw [Nat.add_mul]; omega] at this
    obtain ⟨vs, h3, h4⟩ := h2.cells
    refine ⟨ws ++ vs, DRN.cons hd h3, fun j v hv => ?_⟩
    have hl := hd.length
    rcases Nat.lt_or_ge j ws.length with h5 | h5
    · rw [List.getElem?_append_left h5] at hv
      have := hw j v hv
      simpa using this
    · rw [List.getElem?_append_right h5] at hv
      have := h4 (j - ws.length) v hv
      rwa [show off + s.size + (j - ws.length) = off + j by omega] at this

theorem DRN.leaf {S : Cells} {s : Sch} {xs : List s.D} {vs : List Value} (h : DRN S w s xs vs) : ∀ v ∈ vs, Leaf v := by
  have := encL_rel (G := ⟨S, fun _ => none⟩) (look := fun _ => none) h
  intro v hv
  obtain ⟨i, hi⟩ := List.getElem?_of_mem hv
  obtain ⟨_, _, hc⟩ := this.get' i v hi
  exact hc.2

theorem one_of_leaf {v : Value} (h : Leaf v) : v.oneCell' = true := by cases v <;> first | rfl | exact h.elim

/-- What is appended. -/
theorem src_of {S : Cells} {s : Sch} {ys : List s.D} {tx e' : TypeId} {v : Value} (hk : P.underlying tx = some (.slice e')) (h : DR S w (.sl s) ys [v]) (hpos : 0 < s.size) :
    ∃ news, Src P s.size tx v ys.length news w ∧ DRN S w s ys news ∧ Builtin.lenOf v = Sem.pure ys.length ∧
      (0 < ys.length → ∃ b off cap, v = .slice (some ⟨b, off, none⟩) ys.length cap ∧ S b off ∧ Room.holdsV w ⟨b, off, none⟩ (ys.length * s.size) = true) := by
  obtain ⟨ad, cap, e1, hc, hmx, he⟩ := h
  simp at e1
  subst e1
  by_cases hp : 0 < ys.length
  · obtain ⟨b, off, rfl, hE⟩ := he hp
    obtain ⟨vs, hd, hv⟩ := ElR.cells hE
    have hvl := hd.1
    have hvp : 0 < vs.length := by rw [hvl]; exact Nat.mul_pos hp hpos
    refine ⟨vs, Src.ofSlice w hk ⟨b, off, none⟩ ys.length cap vs hvl (fun j u hu => by rw [addr_add]; exact (hv j u hu).2) (fun u hu => one_of_leaf (hd.leaf u hu)), hd, rfl, fun _ => ⟨b, off, cap, rfl, (hv 0 _ (List.getElem?_eq_getElem hvp)).1, ?_⟩⟩
    have hlast := (hv (vs.length - 1) _ (List.getElem?_eq_getElem (by omega))).2
    exact holdsV_of_last w b off (ys.length * s.size) (by omega) (by rw [← hvl, hlast]; rfl) _ (Nat.le_refl _)
  · have h0 : ys = [] := List.eq_nil_of_length_eq_zero (by omega)
    subst h0
    refine ⟨[], ?_, DRN.nil, rfl, fun h => by simp at h⟩
    cases ad with
    | none => exact Src.ofNil w hk cap
    | some x => exact Src.ofSlice w hk x 0 cap [] (by simp) (fun j u hu => by simp at hu) (fun u hu => by simp at hu)

/-- In place. -/
theorem append_fit {t tx ty e : TypeId} {i : TypeInfo} (ht : P.underlying t = some (.slice e)) (hi : P.info? e = some i) {g sLen sCap : Nat} {cur : Array Value} {te : TypeId} (hg : w.heap[g]? = some (.cells cur te (0, 0)))
    {x : Value} {n : Nat} {news : List Value} (hs : Src P i.size tx x n news w) (hroom : sLen + n ≤ sCap) (hfit : sLen * i.size + news.length ≤ cur.size) :
    (Builtin.append_ #[t, tx] ty #[.slice (some ⟨g, 0, none⟩) sLen sCap, x]).run P w = .ok (.slice (some ⟨g, 0, none⟩) (sLen + n) sCap) (w.setRow g (spliceV cur.toList (sLen * i.size) news).toArray) := by
  have hst := run_storeCells_at P g (sLen * i.size) te news 0 cur w hg (by simpa using hfit) hs.one
  simp only [Nat.add_zero] at hst
  rcases hs.kind with ⟨e', hk⟩ | hk <;> simp [Builtin.append_, run_underlying ht, run_underlying hk, sizeOf, typeInfo, hi, hs.len, hroom, hs.cells, Addr.add_lit, hst, spliceV]

theorem append_nil0 {t tx ty e : TypeId} {i : TypeInfo} (ht : P.underlying t = some (.slice e)) (hi : P.info? e = some i) {sCap : Nat}
    {x : Value} {news : List Value} (hs : Src P i.size tx x 0 news w) :
    (Builtin.append_ #[t, tx] ty #[.slice none 0 sCap, x]).run P w = .ok (.slice none 0 sCap) w := by
  rcases hs.kind with ⟨e', hk⟩ | hk <;> simp [Builtin.append_, run_underlying ht, run_underlying hk, sizeOf, typeInfo, hi, hs.len, hs.cells]

theorem append_keep {t tx ty e : TypeId} {i : TypeInfo} (ht : P.underlying t = some (.slice e)) (hi : P.info? e = some i) {ad : Option Addr} {n sCap : Nat} (hn : n ≤ sCap)
    {x : Value} {news : List Value} (hs : Src P i.size tx x 0 news w) :
    (Builtin.append_ #[t, tx] ty #[.slice ad n sCap, x]).run P w = .ok (.slice ad n sCap) w := by
  have hnl := hs.newsLen
  have : news = [] := List.eq_nil_of_length_eq_zero (by simpa using hnl)
  subst this
  rcases hs.kind with ⟨e', hk⟩ | hk <;> cases ad <;> simp [Builtin.append_, run_underlying ht, run_underlying hk, sizeOf, typeInfo, hi, hs.len, hs.cells, hn, storeCells]

end
end Go.Pi
end

section
namespace Go.Pi
open Go.RowKit
set_option linter.unusedSimpArgs false
set_option linter.unusedVariables false

section
variable {P : Program} {B : Nat} {w0 : World} {S0 : Cells} {G G' : Gh} {outs : List (Array Value)} {σ : St} {a : Act} {w w' : World} {o : Oper} {look : Look}

/-- What an append knows. -/
structure AppIn (P : Program) (S : Cells) (w : World) (t tx el : TypeId) (i : TypeInfo) (zv : Value) (ys : List (sch P el).D) (xv : Value) (news : List Value) : Prop where
  ht : P.underlying t = some (.slice el)
  htx : ∃ e', P.underlying tx = some (.slice e')
  hi : P.info? el = some i
  hz : i.zero = some zv
  sz : (sch P el).size = i.size
  zsz : zv.cells.size = i.size
  pos : 0 < i.size
  by0 : 0 < i.bytes
  src : Src P i.size tx xv ys.length news w
  drn : DRN S w (sch P el) ys news
  lenx : Builtin.lenOf xv = Sem.pure ys.length
  holds : 0 < ys.length → ∃ b off cap, xv = .slice (some ⟨b, off, none⟩) ys.length cap ∧ S b off ∧ Room.holdsV w ⟨b, off, none⟩ (ys.length * i.size) = true

theorem appIn (h : Rel B w0 S0 G outs σ a w) {t tx el e' : TypeId} {y : Operand} (ht : P.underlying t = some (.slice el)) (htx : P.underlying tx = some (.slice e')) (hel : elOk P el = true) (hpos : 0 < szOf P el) (hby : 0 < bytesOfT P el)
    (hz : (zeroCs P el).map (·.length) = some (szOf P el)) {ys : List (sch P el).D} (hy : asSl (lks σ) (sch P el) (ev σ.tm y) = some ys) : ∃ i zv news, bytesOfT P el = i.bytes ∧ AppIn P G.S w t tx el i zv ys (a.eval y) news := by
  obtain ⟨hinf, hsz⟩ := elOk_parts hel
  have hd : DR G.S w (.sl (sch P el)) ys [a.eval y] := decTy_rel h.obj (ev_rel h y) hy
  cases hzs : zeroCs P el with
  | none => simp [hzs] at hz
  | some zs =>
    simp [hzs] at hz
    obtain ⟨zv, hzr, hza⟩ := zero_run hzs
    have hrun := hzr w
    unfold zeroCs at hzs
    cases hi : P.info? el with
    | none => simp [hi] at hzs
    | some i =>
      have hs : szOf P el = i.size := by simp [szOf, hi]
      have hb : bytesOfT P el = i.bytes := by simp [bytesOfT, hi]
      cases hzz : i.zero with
      | none => simp [hi, hzz] at hzs
      | some z' =>
        simp [zeroValue, typeInfo, hi, hzz] at hrun
        subst hrun
        obtain ⟨news, h1, h2, h3, h4⟩ := src_of (P := P) htx hd (by omega)
        rw [hsz, hs] at h1 h4
        have hl := (hza G w (lks σ)).length
        exact ⟨i, z', news, hb, ht, ⟨e', htx⟩, hi, hzz, hsz.trans hs, by simp at hl; omega, by omega, by omega, h1, h2, h3, h4⟩

theorem DRN.drew {S : Cells} {s : Sch} {xs : List s.D} {vs : List Value} (h : DRN S w s xs vs) : DRN S w.drew s xs vs := DRN.mono (w := w) (w' := w.drew) (fun b o hs => ⟨hs, rfl⟩) h

/-- A new block. -/
theorem app_grow {S : Cells} {t tx el ty : TypeId} {i : TypeInfo} {zv : Value} {ys : List (sch P el).D} {xv : Value} {news : List Value} (A : AppIn P S w t tx el i zv ys xv news) {base : Option Addr} {cap : Nat} {xs : List (sch P el).D} {olds : List Value} (ho : DRN S w (sch P el) xs olds)
    (hold : (Builtin.firstCells i.size xs.length (.slice base xs.length cap)).run P w.drew = .ok olds.toArray w.drew) (hlt : cap < xs.length + ys.length) (hfit : Builtin.nextslicecap (xs.length + ys.length) cap * i.bytes ≤ 281474976710656) :
    ∃ (vs : Array Value) (nc : Nat), (Builtin.append_ #[t, tx] ty #[.slice base xs.length cap, xv]).run P w = .ok (.slice (some ⟨w.heap.size, 0, none⟩) (xs.length + ys.length) nc) (w.drew.alloc (.cells vs el)) ∧ vs.size = nc * (sch P el).size ∧
      (xs ++ ys).length ≤ nc ∧ nc ≤ 9223372036854775807 ∧ DRN S w.drew (sch P el) (xs ++ ys) (vs.toList.take ((xs ++ ys).length * (sch P el).size)) ∧ lenOk (xs.length + ys.length) = true := by
  have hnb : (xs.length + ys.length) * i.bytes ≤ 281474976710656 := Nat.le_trans (Nat.mul_le_mul_right _ (le_nextslicecap hlt)) hfit
  have hneed : xs.length + ys.length ≤ (xs.length + ys.length) * i.bytes := Nat.le_mul_of_pos_right _ A.by0
  have hr := run_append_grow_src (P := P) w t tx ty el i zv A.ht A.hi A.hz base xs.length cap olds hold xv ys.length news A.src hlt (by omega) hfit
  have hge := grownCap_ge w (xs.length + ys.length) cap el
  have hcm := grownCap_le_maxLen w (xs.length + ys.length) cap el (by simp only [maxLen]; omega)
  have hdn := (ho.append A.drn).drew
  refine ⟨_, _, hr, ?_, by simpa using hge, by simp only [maxLen] at hcm; omega, ?_, by simp [lenOk]; omega⟩
  · have h1 := hdn.1
    simp only [Array.size_append, List.size_toArray, size_zeroCells, A.zsz, h1, List.length_append, A.sz, ← Nat.add_mul]
    congr 1
    omega
  · have := drn_take hdn (Builtin.zeroCells zv.cells (grownCap w (xs.length + ys.length) cap el - (xs.length + ys.length))).toList
    simpa using this

/-- No memory bears it. -/
theorem app_ask {S : Cells} {t tx el : TypeId} {i : TypeInfo} {zv : Value} {ys : List (sch P el).D} {news : List Value} {x y : Operand} (A : AppIn P S w t tx el i zv ys (a.eval y) news) (ho : o.op = .call { callee := .builtin .append, args := #[x, y], argTypes := #[t, tx] })
    {base : Option Addr} {n cap : Nat} (hx : a.eval x = .slice base n cap) (hlt : cap < n + ys.length) (hnc : n ≤ cap) (hbig : ¬ Builtin.nextslicecap (n + ys.length) cap * i.bytes ≤ 281474976710656)
    (hb : base = none ∧ n = 0 ∨ ∃ g cur te, base = some ⟨g, 0, none⟩ ∧ w.heap[g]? = some (.cells cur te (0, 0)) ∧ cur.size = cap * i.size ∧ ∀ off, ¬ S g off) : o.asks P a w := by
  obtain ⟨b, off, c, hxv, hS, hh⟩ := A.holds (by omega)
  have hm : (Builtin.mayShare i.size n ys.length base (a.eval y)).runT P w #[] = (.ok false w, #[]) := by
    rw [hxv]
    rcases hb with ⟨rfl, rfl⟩ | ⟨g, cur, te, rfl, hg, hcs, hno⟩
    · exact runT_mayShare_nil_cells w i.size ys.length _ c hh
    · exact runT_mayShare_own_cells w i.size n ys.length g cap cur te hg hnc hcs _ c (fun e => by simp only at e; subst e; exact hno _ hS) hh
  obtain ⟨e', htx⟩ := A.htx
  have hr := runT_append_beyond_any (P := P) w t tx o.type el i (.slice e') A.ht A.hi htx (by simp) base n cap ys.length (a.eval y) A.lenx hlt (by omega) hm
  refine asks_append_any w x y t tx ho (by rw [hx, hr]; simp) ?_
  rw [hx, ← Sem.runT_fst P _ w #[], hr]
  exact fun _ => ⟨by simp, by simp, fun _ => by simp⟩

theorem app_done {t tx : TypeId} {x y : Operand} {v : Value} {wv : World} (ho : o.op = .call { callee := .builtin .append, args := #[x, y], argTypes := #[t, tx] }) {xv : Value} (hx : a.eval x = xv)
    (hr : (Builtin.append_ #[t, tx] o.type #[xv, a.eval y]).run P w = .ok v wv) : Done P o a w v wv := by
  refine .inl ?_
  unfold execOp
  simp [ho, resolve, invoke, builtin, hx, hr]

/-- An object that lies in no block. -/
theorem Rel.noBlock (h : Rel B w0 S0 G outs σ a w) {site : Nat} {s : Sch} {m : Mode} {ver : Nat} (hpos : 0 < s.size) (hm : m.fix = none) (dt' dob' : List Nat)
    (hT : ∀ M', M' site = none → Turn G { S := G.S, M := M' } site (.arr m ver s []) (lk site σ.sto)) :
    Rel B w0 S0 { S := G.S, M := fun p => if p = site then none else G.M p } outs { σ with sto := ups site (.arr m ver s []) σ.sto, dt := dt', dob := dob' } a w := by
  refine h.upd1 (G' := { S := G.S, M := fun p => if p = site then none else G.M p }) site _ dt' dob' (Keeps.refl _ _) (fun p ob e _ => by simp [e]) (fun p ob b c _ _ _ => ⟨rfl, fun _ h => h⟩) (hT _ (by simp)) ⟨hpos, by simp [ArrR, hm]⟩
    (fun p ob b c c' _ _ _ hb => by simp at hb) h.below h.bsz (fun _ _ h => .inl h) h.slt

theorem refV_ref {G : Gh} {look : Look} {ob ver n : Nat} {m : Mode} {s : Sch} {xs : List s.D} {v : Value} (hl : Leaf v) (hlk : look ob = some (.arr m ver s xs)) (hm : m.fix = none) (hn : xs.length = n) (hr : RefV (G.M ob) n v) : VR G w look (.ref ob ver) v :=
  ⟨hl, m, ver, s, xs, hlk, hm, Nat.le_refl _, fun _ => hn ▸ hr⟩

theorem op_append_nil (h : Rel B w0 S0 G outs σ a w) {t tx el e' : TypeId} {x y : Operand} (ho : o.op = .call { callee := .builtin .append, args := #[x, y], argTypes := #[t, tx] }) (ht : P.underlying t = some (.slice el)) (htx : P.underlying tx = some (.slice e')) (hel : elOk P el = true) (hpos : 0 < szOf P el) (hby : 0 < bytesOfT P el)
    (hz : (zeroCs P el).map (·.length) = some (szOf P el)) {ys : List (sch P el).D} (hy : asSl (lks σ) (sch P el) (ev σ.tm y) = some ys) (hx : ev σ.tm x = .nils) {site : Nat} (hsite : lk site σ.sto = none) {c : Bool} (hc : roomOk ys.length (bytesOfT P el) = true) :
    OpOK P B w0 S0 outs σ a w o ⟨c, true, none, .ref site 0, [(site, .arr .uniq 0 (sch P el) ys)]⟩ := by
  have hxv : a.eval x = .slice none 0 0 := by have := ev_rel h x; rw [hx] at this; exact this
  obtain ⟨i, zv, news, hb, A⟩ := appIn h ht htx hel hpos hby hz hy
  by_cases hm : ys.length = 0
  · have hy0 : ys = [] := List.eq_nil_of_length_eq_zero hm
    subst hy0
    have hR := h.noBlock (site := site) (s := sch P el) (m := .uniq) (ver := 0) (by have := A.sz; have := A.pos; omega) rfl σ.dt (site :: σ.dob) (fun M' _ => by rw [hsite]; trivial)
    refine .inl ⟨.slice none 0 0, w, _, app_done ho hxv (append_nil0 (ty := o.type) A.ht A.hi A.src), hR.put o.dst (av := .ref site 0) ?_, rfl⟩
    exact refV_ref (n := 0) (xs := ([] : List (sch P el).D)) (s := sch P el) (m := .uniq) trivial (by simp [lks, lk_ups]) rfl rfl (by simp [RefV])
  · by_cases hp : Builtin.nextslicecap (0 + ys.length) 0 * i.bytes ≤ 281474976710656
    · obtain ⟨vs, nc, hr, hvs, hle, hmx, hdn, hok⟩ := app_grow (ty := o.type) A (base := none) (cap := 0) (xs := []) (olds := []) DRN.nil (by simpa using run_firstCells_none (P := P) w.drew i.size 0 0 0) (by simp; omega) (by simpa using hp)
      simp only [List.nil_append, List.length_nil, Nat.zero_add] at hr hle hdn hok
      have hR := h.drew.moveOb (site := site) (k := 0) (.arr .uniq 0 (sch P el) ys) vs el nc σ.dt (site :: σ.dob) (by rw [hsite]; trivial)
        (fun hk look' => arr_new (w := w.drew) (k := 0) (m := .uniq) h.bsz h.slt (by have := A.sz; have := A.pos; omega) rfl hvs hle hmx hdn rfl hk look')
      refine .inl ⟨_, _, _, app_done ho hxv hr, hR.put o.dst (av := .ref site 0) ?_, rfl⟩
      exact refV_ref (n := ys.length) (xs := ys) (s := sch P el) (m := .uniq) trivial (by simp [lks, lk_ups]) rfl rfl (by simp [RefV])
    · exact (hp (by
        simp [roomOk, hb] at hc
        exact growslice_fits (by omega) (by simpa using hc))).elim

/-- Onto what is under construction. -/
theorem op_append_ref (h : Rel B w0 S0 G outs σ a w) {t tx el e' : TypeId} {x y : Operand} (ho : o.op = .call { callee := .builtin .append, args := #[x, y], argTypes := #[t, tx] }) (ht : P.underlying t = some (.slice el)) (htx : P.underlying tx = some (.slice e')) (hel : elOk P el = true) (hpos : 0 < szOf P el) (hby : 0 < bytesOfT P el)
    (hz : (zeroCs P el).map (·.length) = some (szOf P el)) {ys : List (sch P el).D} (hy : asSl (lks σ) (sch P el) (ev σ.tm y) = some ys) {ob ver : Nat} (hx : ev σ.tm x = .ref ob ver) {m : Mode} {xs : List (sch P el).D} (hob : lk ob σ.sto = some (.arr m ver (sch P el) xs)) (hmf : m.fix = none)
    {c : Bool} (hcr : roomOk (xs.length + ys.length) (bytesOfT P el) = true) :
    OpOK P B w0 S0 outs σ a w o ⟨c, true, none, .ref ob (ver + 1), [(ob, .arr m (ver + 1) (sch P el) (xs ++ ys))]⟩ := by
  have hxr := ev_rel h x
  rw [hx] at hxr
  obtain ⟨hleaf, m', ver', s', xs', hob', hmf', hle', hrv⟩ := hxr
  have hob2 : lk ob σ.sto = some (.arr m' ver' s' xs') := hob'
  rw [hob] at hob2
  simp only [Option.some.injEq, Ob.arr.injEq] at hob2
  obtain ⟨rfl, rfl, rfl, e2⟩ := hob2
  have e3 := eq_of_heq e2
  subst e3
  have hrv := hrv rfl
  obtain ⟨i, zv, news, hb, A⟩ := appIn h ht htx hel hpos hby hz hy
  have hps : 0 < (sch P el).size := by have := A.sz; have := A.pos; omega
  have hO := (h.obj ob _ hob).2
  have hturn : ∀ (M' : Nat → Option (Nat × Nat)) (S' : Cells) (zs : List (sch P el).D), Turn G { S := S', M := M' } ob (.arr m (ver + 1) (sch P el) zs) (lk ob σ.sto) := fun M' S' zs => by
    rw [hob]
    exact ⟨m, ver + 1, zs, rfl, rfl, by omega, fun e => (e hmf).elim, fun e => by omega⟩
  -- a new block
  have grown : ∀ (base : Option Addr) (cap : Nat) (olds : List Value), a.eval x = .slice base xs.length cap → DRN G.S w (sch P el) xs olds → (Builtin.firstCells i.size xs.length (.slice base xs.length cap)).run P w.drew = .ok olds.toArray w.drew →
      cap < xs.length + ys.length → Builtin.nextslicecap (xs.length + ys.length) cap * i.bytes ≤ 281474976710656 → OpOK P B w0 S0 outs σ a w o ⟨c, true, none, .ref ob (ver + 1), [(ob, .arr m (ver + 1) (sch P el) (xs ++ ys))]⟩ := by
    intro base cap olds hxv hdo hfc hlt hfit
    obtain ⟨vs, nc, hr, hvs, hle, hmx, hdn, hok⟩ := app_grow (ty := o.type) A hdo hfc hlt hfit
    have hR := h.drew.moveOb (site := ob) (k := growK m ((xs ++ ys).length * (sch P el).size)) (.arr m (ver + 1) (sch P el) (xs ++ ys)) vs el nc σ.dt (ob :: σ.dob) (hturn _ _ _)
      (fun hk look' => arr_new (w := w.drew) (m := m) h.bsz h.slt hps hmf hvs hle hmx hdn rfl hk look')
    refine .inl ⟨_, _, _, app_done ho hxv hr, hR.put o.dst (av := .ref ob (ver + 1)) ?_, rfl⟩
    exact refV_ref (n := xs.length + ys.length) (xs := xs ++ ys) (s := sch P el) (m := m) trivial (by simp [lks, lk_ups]) hmf (by simp) (by simp [RefV])
  cases hM : G.M ob with
  | none =>
    rw [hM] at hrv hO
    obtain ⟨hxs, _⟩ := hO
    subst hxs
    obtain ⟨_, hxv⟩ := hrv
    by_cases hm : ys.length = 0
    · have hy0 : ys = [] := List.eq_nil_of_length_eq_zero hm
      subst hy0
      have hR := h.noBlock (site := ob) (s := sch P el) (m := m) (ver := ver + 1) hps hmf σ.dt (ob :: σ.dob) (fun M' _ => hturn _ _ _)
      refine .inl ⟨.slice none 0 0, w, _, app_done ho hxv (append_nil0 (ty := o.type) A.ht A.hi A.src), hR.put o.dst (av := .ref ob (ver + 1)) ?_, rfl⟩
      exact refV_ref (n := 0) (xs := ([] : List (sch P el).D)) (s := sch P el) (m := m) trivial (by simp [lks, lk_ups]) hmf rfl (by simp [RefV])
    · by_cases hp : Builtin.nextslicecap (0 + ys.length) 0 * i.bytes ≤ 281474976710656
      · exact grown none 0 [] hxv DRN.nil (by simpa using run_firstCells_none (P := P) w.drew i.size 0 0 0) (by simp; omega) (by simpa using hp)
      · exfalso
        apply hp
        simp [roomOk, hb] at hcr
        exact growslice_fits (by omega) (by simpa using hcr)
  | some q =>
    obtain ⟨b, cap⟩ := q
    rw [hM] at hrv hO
    simp only [RefV] at hrv
    obtain ⟨hB, cur, ty, hh, hsz, hle, hmx, hfx, hel', hS, hS2⟩ := hO
    have hmx := hmx hmf
    obtain ⟨cur', ty', hh', _, _, hdn⟩ := ArrR.drn (show ArrR G.S w B (some (b, cap)) m (sch P el) xs from ⟨hB, cur, ty, hh, hsz, hle, fun _ => hmx, hfx, hel', hS, hS2⟩)
    rw [hh] at hh'
    simp at hh'
    obtain ⟨rfl, rfl⟩ := hh'
    have hcell : ∀ j u, (cur.toList.take (xs.length * (sch P el).size))[j]? = some u → w.cell? (Addr.add ⟨b, 0, none⟩ j) = some u := fun j u hu => by
      rw [addr_add, Nat.zero_add, cell_of_block hh]
      rw [List.getElem?_take] at hu
      split at hu
      · simpa using hu
      · simp at hu
    by_cases hroom : xs.length + ys.length ≤ cap
    · have hnl := A.drn.1
      have hfit : xs.length * i.size + news.length ≤ cur.size := by
        rw [hnl, hsz, A.sz, ← Nat.add_mul]
        exact Nat.mul_le_mul_right _ hroom
      have hr := append_fit (ty := o.type) A.ht A.hi hh A.src hroom hfit
      have hfit' : xs.length * i.size + news.length ≤ cur.toList.length := by simpa using hfit
      -- the marks of the block
      have hkeep : ∀ k, Keeps G.S w (addS G.S b k) (w.setRow b (spliceV cur.toList (xs.length * i.size) news).toArray) := fun k b' o' hs => ⟨.inl hs, by
        by_cases e : b' = b
        · subst e
          have h2 := (hS o' hs).2
          rw [cell_of_block (setRow_heap w b' cur _ ty _ hh), cell_of_block hh]
          simp only [List.getElem?_toArray]
          rw [spliceV_get _ _ _ hfit', if_neg (by rw [A.sz] at h2; omega)]
          simp
        · exact cell_setRow_other w b _ _ (fun e' => e e')⟩
      have hk := hkeep (growK m ((xs ++ ys).length * (sch P el).size))
      have hnone : ∀ off, (b : Nat) = b → addS G.S b (growK m ((xs ++ ys).length * (sch P el).size)) b off → m = .grow ∧ off < (xs ++ ys).length * (sch P el).size := fun off _ hs => by
        rcases hs with hs | ⟨_, hs⟩
        · obtain ⟨h1, h2⟩ := hS off hs
          refine ⟨h1, Nat.lt_of_lt_of_le h2 (Nat.mul_le_mul_right _ (by simp))⟩
        · cases m with
          | grow => exact ⟨rfl, hs⟩
          | uniq => simp [growK] at hs
          | fixed q => simp [growK] at hs
      have hdnew : DRN G.S w (sch P el) (xs ++ ys) (cur.toList.take (xs.length * (sch P el).size) ++ news) := hdn.append A.drn
      have hR : Rel B w0 S0 { S := addS G.S b (growK m ((xs ++ ys).length * (sch P el).size)), M := G.M } outs { σ with sto := ups ob (.arr m (ver + 1) (sch P el) (xs ++ ys)) σ.sto, dt := σ.dt, dob := ob :: σ.dob } a (w.setRow b (spliceV cur.toList (xs.length * i.size) news).toArray) := by
        refine h.upd1 (G' := { S := addS G.S b (growK m ((xs ++ ys).length * (sch P el).size)), M := G.M }) ob _ σ.dt (ob :: σ.dob) hk (fun _ _ _ _ => rfl) (fun p ob' b' c' e hp hb' => ?_) (hturn _ _ _) ⟨hps, ?_⟩ (fun p ob' b' c' c3 e hp hb' hb3 => e (h.inj p ob _ _ b' c' c3 hp hob hb' hb3))
          (below_setRow h.below hB _) (by simpa using h.bsz) (fun b' o' hs => ?_) (fun b' o' hs => ?_)
        · have hne : b' ≠ b := fun e' => e (h.inj p ob _ _ b' c' cap hp hob hb' (e' ▸ hM))
          refine ⟨setRow_other w b b' _ hne, fun off hs => ?_⟩
          rcases hs with hs | ⟨e', _⟩
          · exact hs
          · exact (hne e').elim
        · simp only [hM]
          refine ⟨hB, _, ty, setRow_heap w b cur _ ty _ hh, ?_, by simpa using hroom, fun _ => hmx, fun q e => by rw [hmf] at e; simp at e, fun j z hj => ?_, fun off hs => hnone off rfl hs, fun e off ho' => ?_⟩
          · simp only [List.size_toArray, spliceV_length hfit']
            simpa using hsz
          · obtain ⟨us, hd1, hd2⟩ := hdnew.get j z hj
            refine ⟨us, DR.mono hk hd1, fun q u hu => ?_⟩
            have h5 := hd2 q u hu
            simp only [List.getElem?_toArray]
            rw [spliceV_get _ _ _ hfit']
            have hxl : (cur.toList.take (xs.length * (sch P el).size)).length = xs.length * i.size := by rw [hdn.1, A.sz]
            by_cases h6 : j * (sch P el).size + q < xs.length * i.size
            · rw [List.getElem?_append_left (by omega), List.getElem?_take] at h5
              rw [if_neg (by omega)]
              split at h5
              · exact h5
              · simp at h5
            · rw [List.getElem?_append_right (by omega), hxl] at h5
              have h7 : j * (sch P el).size + q - xs.length * i.size < news.length := by
                rcases Nat.lt_or_ge (j * (sch P el).size + q - xs.length * i.size) news.length with h8 | h8
                · exact h8
                · rw [List.getElem?_eq_none h8] at h5; simp at h5
              rw [if_pos (by omega)]
              exact h5
          · subst e
            exact .inr ⟨rfl, ho'⟩
        · rcases hs with hs | ⟨e, _⟩
          · exact .inl hs
          · exact .inr (e ▸ hB)
        · rcases hs with hs | ⟨e, _⟩
          · simpa using h.slt b' o' hs
          · subst e
            simpa using (Array.getElem?_eq_some_iff.1 hh).1
      refine .inl ⟨_, _, _, app_done ho hrv hr, hR.put o.dst (av := .ref ob (ver + 1)) ?_, rfl⟩
      exact refV_ref (n := xs.length + ys.length) (xs := xs ++ ys) (s := sch P el) (m := m) trivial (by simp [lks, lk_ups]) hmf (by simp) (by simp [RefV, hM])
    · have hfc := run_firstCells_some (P := P) w.drew i.size xs.length ⟨b, 0, none⟩ xs.length cap (cur.toList.take (xs.length * (sch P el).size)) (by rw [hdn.1, A.sz]) (by simpa using hcell)
      by_cases hp : Builtin.nextslicecap (xs.length + ys.length) cap * i.bytes ≤ 281474976710656
      · exact grown _ cap _ hrv hdn hfc (by omega) hp
      · exfalso
        apply hp
        simp [roomOk, hb] at hcr
        exact growslice_fits (by omega) hcr

/-- Onto a slice with no room. -/
theorem op_append_exact (h : Rel B w0 S0 G outs σ a w) {t tx el e' : TypeId} {x y : Operand} (ho : o.op = .call { callee := .builtin .append, args := #[x, y], argTypes := #[t, tx] }) (ht : P.underlying t = some (.slice el)) (htx : P.underlying tx = some (.slice e')) (hel : elOk P el = true) (hpos : 0 < szOf P el) (hby : 0 < bytesOfT P el)
    (hz : (zeroCs P el).map (·.length) = some (szOf P el)) {ys : List (sch P el).D} (hy : asSl (lks σ) (sch P el) (ev σ.tm y) = some ys) {xs : List (sch P el).D} (hx : ev σ.tm x = .sl true (sch P el) xs) {c : Bool} (hc : roomOk (xs.length + ys.length) (bytesOfT P el) = true) :
    OpOK P B w0 S0 outs σ a w o ⟨c, true, none, .sl false (sch P el) (xs ++ ys), []⟩ := by
  have hxr := ev_rel h x
  rw [hx] at hxr
  obtain ⟨hdx, hex⟩ := hxr
  obtain ⟨ad, hxv⟩ := hex rfl
  obtain ⟨i, zv, news, hb, A⟩ := appIn h ht htx hel hpos hby hz hy
  have hps : 0 < (sch P el).size := by have := A.sz; have := A.pos; omega
  by_cases hm : ys.length = 0
  · have hy0 : ys = [] := List.eq_nil_of_length_eq_zero hm
    subst hy0
    rw [List.append_nil]
    exact .inl ⟨_, w, G, app_done ho hxv (append_keep (ty := o.type) A.ht A.hi (Nat.le_refl _) A.src), h.put o.dst (av := .sl false (sch P el) xs) ⟨by rw [← hxv]; exact hdx, fun e => by simp at e⟩, rfl⟩
  · have hread : ∃ olds, DRN G.S w (sch P el) xs olds ∧ (Builtin.firstCells i.size xs.length (.slice ad xs.length xs.length)).run P w.drew = .ok olds.toArray w.drew := by
      obtain ⟨news', h1, h2, _, _⟩ := src_of (P := P) (tx := t) A.ht hdx hps
      rw [hxv] at h1
      rw [A.sz] at h1
      exact ⟨news', h2, h1.cellsD⟩
    obtain ⟨olds, hdo, hfc⟩ := hread
    simp [roomOk, hb] at hc
    obtain ⟨vs, nc, hr, hvs, hle, hmx, hdn, hok⟩ := app_grow (ty := o.type) A hdo hfc (by omega) (growslice_fits (by omega) hc)
    obtain ⟨hR, hV⟩ := h.drew.newFrozen (ty := el) hdn hle hmx false (fun e => by simp at e)
    refine .inl ⟨_, _, _, app_done ho hxv hr, hR.put o.dst (av := .sl false (sch P el) (xs ++ ys)) ?_, rfl⟩
    simpa using hV

end
end Go.Pi
end

section
namespace Go.Pi
open Go.RowKit
set_option linter.unusedSimpArgs false
set_option linter.unusedVariables false

section
variable {P : Program} {B : Nat} {w0 : World} {S0 : Cells} {G G' : Gh} {outs : List (Array Value)} {σ : St} {a : Act} {w w' : World} {o : Oper} {look : Look}

/-- Only what is looked up counts. -/
theorem Rel.congr {σ' : St} (h : Rel B w0 S0 G outs σ a w) (htm : σ'.tm = σ.tm) (hout : σ'.outs = σ.outs) (hlk : ∀ p, lk p σ'.sto = lk p σ.sto) : Rel B w0 S0 G outs σ' a w := by
  have hf : (fun o => lk o σ'.sto) = fun o => lk o σ.sto := funext hlk
  refine ⟨h.below, h.bsz, h.s0, h.snew, h.slt, by rw [htm]; exact h.tml, ?_, ?_, ?_, ?_⟩
  · rw [htm, hf]; exact h.tm
  · rw [hout, hf]; exact h.outl
  · rw [hf]; intro o ob ho; exact h.obj o ob (by rw [← hlk]; exact ho)
  · intro o o' ob ob' b c c' h1 h2; exact h.inj o o' ob ob' b c c' (by rw [← hlk]; exact h1) (by rw [← hlk]; exact h2)

theorem Ext.trans {G'' : Gh} {w'' : World} {look' look'' : Look} (h : Ext G w look G' w' look') (k : Ext G' w' look' G'' w'' look'') : Ext G w look G'' w'' look'' := by
  refine ⟨h.keeps.trans k.keeps, fun o fz cs ho => ?_, fun o m ver s xs ho => ?_⟩
  · obtain ⟨h1, fz', cs', h2⟩ := h.cells o fz cs ho
    obtain ⟨h3, r⟩ := k.cells o fz' cs' h2
    exact ⟨h3.trans h1, r⟩
  · obtain ⟨m', ver', xs', h1, h2, h3, h4, h5⟩ := h.arr o m ver s xs ho
    obtain ⟨m'', ver'', xs'', k1, k2, k3, k4, k5⟩ := k.arr o m' ver' s xs' h1
    refine ⟨m'', ver'', xs'', k1, k2.trans h2, Nat.le_trans h3 k3, fun e => (k4 (by rw [h2]; exact e)).trans (h4 e), fun e => ?_⟩
    have e1 : ver' = ver := by omega
    have e2 : ver'' = ver' := by omega
    exact ⟨(k5 e2).1.trans (h5 e1).1, (k5 e2).2.trans (h5 e1).2⟩

theorem Rel.frz1 (h : Rel B w0 S0 G outs σ a w) (o : Nat) : ∃ G', Rel B w0 S0 G' outs (frz1 o σ) a w ∧ Ext G w (lks σ) G' w (lks (Pi.frz1 o σ)) := by
  unfold Pi.frz1
  cases hob : lk o σ.sto with
  | none => exact ⟨G, h, Ext.refl _ _ _⟩
  | some ob =>
    cases ob with
    | cells fz cs => exact ⟨G, h, Ext.refl _ _ _⟩
    | arr m ver s xs =>
      cases m with
      | fixed k => exact ⟨G, h, Ext.refl _ _ _⟩
      | grow => exact ⟨G, h, Ext.refl _ _ _⟩
      | uniq =>
        simp only
        obtain ⟨hpos, hA⟩ := h.obj o _ hob
        cases hM : G.M o with
        | none =>
          rw [hM] at hA
          have hT : Turn G G o (.arr .grow ver s xs) (lk o σ.sto) := by
            rw [hob]
            exact ⟨.grow, ver, xs, rfl, rfl, Nat.le_refl _, fun _ => rfl, fun _ => ⟨rfl, rfl⟩⟩
          refine ⟨G, h.upd1 (G' := G) o _ σ.dt (o :: σ.dob) (Keeps.refl _ _) (fun _ _ _ _ => rfl) (fun _ _ _ _ _ _ _ => ⟨rfl, fun _ h => h⟩) hT ⟨hpos, by rw [hM]; exact ⟨hA.1, rfl⟩⟩ (fun p ob b c c' e hp hb hb' => by rw [hM] at hb'; simp at hb') h.below h.bsz (fun _ _ h => .inl h) h.slt, Ext.upd1 (Keeps.refl _ _) (fun _ _ _ _ => rfl) hT⟩
        | some q =>
          obtain ⟨b, cap⟩ := q
          rw [hM] at hA
          obtain ⟨hB, vs, ty, hh, hsz, hle, hmx, hfx, he, hS, hS2⟩ := hA
          have hno : ∀ off, ¬ G.S b off := fun off hs => by have := (hS off hs).1; simp at this
          have hk : Keeps G.S w (addS G.S b (xs.length * s.size)) w := fun b' o' hs => ⟨.inl hs, rfl⟩
          have hT : Turn G { S := addS G.S b (xs.length * s.size), M := G.M } o (.arr .grow ver s xs) (lk o σ.sto) := by
            rw [hob]
            exact ⟨.grow, ver, xs, rfl, rfl, Nat.le_refl _, fun _ => rfl, fun _ => ⟨rfl, rfl⟩⟩
          refine ⟨{ S := addS G.S b (xs.length * s.size), M := G.M }, h.upd1 (G' := { S := addS G.S b (xs.length * s.size), M := G.M }) o _ σ.dt (o :: σ.dob) hk (fun _ _ _ _ => rfl) (fun p ob' b' c' e hp hb' => ⟨rfl, fun off hs => ?_⟩) hT ⟨hpos, ?_⟩
            (fun p ob' b' c' c3 e hp hb' hb3 => e (h.inj p o _ _ b' c' c3 hp hob hb' hb3)) h.below h.bsz (fun b' o' hs => ?_) (fun b' o' hs => ?_), Ext.upd1 hk (fun _ _ _ _ => rfl) hT⟩
          · rcases hs with hs | ⟨e', _⟩
            · exact hs
            · subst e'
              exact (e (h.inj p o _ _ b' c' cap hp hob hb' hM)).elim
          · simp only [hM]
            refine ⟨hB, vs, ty, hh, hsz, hle, fun _ => hmx rfl, fun k e => by simp [Mode.fix] at e, fun i x hx => ?_, fun off hs => ?_, fun _ off ho => .inr ⟨rfl, ho⟩⟩
            · obtain ⟨ws, h1, h2⟩ := he i x hx
              exact ⟨ws, DR.mono hk h1, h2⟩
            · rcases hs with hs | ⟨_, hs⟩
              · exact (hno off hs).elim
              · exact ⟨rfl, hs⟩
          · rcases hs with hs | ⟨e, _⟩
            · exact .inl hs
            · exact .inr (e ▸ hB)
          · rcases hs with hs | ⟨e, _⟩
            · exact h.slt b' o' hs
            · subst e; exact (Array.getElem?_eq_some_iff.1 hh).1

theorem Pres.frz1 (σ : St) (o : Nat) : Pres σ (frz1 o σ) := by
  unfold Pi.frz1
  split
  · rename_i ver s xs hob
    refine ⟨fun t => .inr (.inl rfl), fun t ht => ht, fun p => ?_, fun p hp => .tail _ hp, rfl, rfl⟩
    by_cases e : p = o
    · exact .inl (by simp [e])
    · exact .inr fun ob' hp => by simpa [lk_ups, e] using hp
  · exact Pres.refl σ

theorem Rel.frzX : ∀ (l : List Nat) {G : Gh} {σ : St}, Rel B w0 S0 G outs σ a w → ∃ G', Rel B w0 S0 G' outs (Pi.frz l σ) a w ∧ Ext G w (lks σ) G' w (lks (Pi.frz l σ))
  | [], G, σ, h => ⟨G, h, Ext.refl _ _ _⟩
  | o :: r, G, σ, h => by
    obtain ⟨G1, h1, x1⟩ := h.frz1 o
    obtain ⟨G2, h2, x2⟩ := Rel.frzX r h1
    exact ⟨G2, h2, x1.trans x2⟩

theorem Rel.frz (l : List Nat) {G : Gh} {σ : St} (h : Rel B w0 S0 G outs σ a w) : ∃ G', Rel B w0 S0 G' outs (Pi.frz l σ) a w := by
  obtain ⟨G', h1, _⟩ := Rel.frzX l h
  exact ⟨G', h1⟩

theorem Pres.frz : ∀ (l : List Nat) (σ : St), Pres σ (Pi.frz l σ)
  | [], σ => Pres.refl σ
  | o :: r, σ => (Pres.frz1 σ o).trans (Pres.frz r _)

theorem frz_tm : ∀ (l : List Nat) (σ : St), (Pi.frz l σ).tm = σ.tm
  | [], σ => rfl
  | o :: r, σ => by
    show (Pi.frz r (Pi.frz1 o σ)).tm = _
    rw [frz_tm r]
    unfold Pi.frz1
    split <;> rfl

theorem frzFor_eq (E : Env) (σ : St) (o : Oper) : ∃ l, frzFor E σ o = Pi.frz l σ := by
  unfold frzFor frzOps
  split
  · exact ⟨[], rfl⟩
  · exact ⟨[], rfl⟩
  · split
    · split
      · split
        · exact ⟨_, rfl⟩
        · exact ⟨[], rfl⟩
      · exact ⟨[], rfl⟩
    · exact ⟨_, rfl⟩
  · exact ⟨_, rfl⟩

/-! ### calls of functions that have been proved -/
/-- What a function returns, as one value. -/
def packV : List Value → Value
  | [v] => v
  | vs => .tuple vs.toArray

structure Ret (S : Cells) (w : World) (cods : List Ty) (y : (tyS cods).D) (v : Value) (w' : World) : Prop where
  below : Below w.heap.size w w'
  ret : ∃ S', (∀ b o, S b o → S' b o) ∧ (∀ b o, S' b o → S b o ∨ w.heap.size ≤ b) ∧ (∀ b o, S' b o → b < w'.heap.size) ∧ ∃ vs, TysV S' w' cods y vs ∧ v = packV vs

/-- The one slice, still to be turned. -/
structure RetU (S : Cells) (w : World) (cods : List Ty) (y : (tyS cods).D) (v : Value) (w' : World) : Prop where
  below : Below w.heap.size w w'
  ret : ∃ S', (∀ b o, S b o → S' b o) ∧ (∀ b o, S' b o → S b o ∨ w.heap.size ≤ b) ∧ (∀ b o, S' b o → b < w'.heap.size) ∧ ∃ s ys mo, encs cods y = [.sl false s ys] ∧ 0 < s.size ∧ ArrR S' w' w.heap.size mo .uniq s ys ∧ RefV mo ys.length v

def preH : Option Prop → Prop
  | none => True
  | some q => q

def EntryOK (P : Program) (f : Nat) (en : Entry) : Prop :=
  (∃ fn, P.funcs[f]? = some fn ∧ fn.body.isSome = true) ∧ (en.total = true → ∀ x, en.pre x) ∧ ∀ (S : Cells) (w : World) (args : List Value) (x : (tyS en.doms).D), (∀ b o, S b o → b < w.heap.size) → TysV S w en.doms x args → en.pre x →
    Calls P f args.toArray w fun
      | .returned v, w' => Ret S w en.cods (en.fn x) v w' ∧ (en.uq = true → RetU S w en.cods (en.fn x) v w')
      | .panicked _, _ => False
      | .outgrown, _ => False

def EnvOK (P : Program) (E : Env) : Prop := ∀ f en, elk f E = some en → EntryOK P f en

theorem vr1_of : ∀ {avs : List AV} {vs : List Value}, All2 (VR G w look) avs vs → (∀ v ∈ avs, ∀ q, v ≠ .tup q) → All2 (VR1 G w look) avs vs
  | [], [], _, _ => trivial
  | [], _ :: _, h, _ => h.elim
  | _ :: _, [], h, _ => h.elim
  | c :: r, u :: us, h, h2 => by
    refine ⟨?_, vr1_of h.2 fun v hv => h2 v (by simp [hv])⟩
    have h3 := h.1
    have h4 := h2 c (by simp)
    cases c <;> first | exact h3 | exact absurd rfl (h4 _)

theorem encRes_rel {l : List Ty} {y : (tyS l).D} {vs : List Value} (h : TysV G.S w l y vs) : VR G w look (encRes l y) (packV vs) := by
  have h1 : All2 (VR G w look) (encs l y) vs := encs_rel h
  have hnot : ∀ (l : List Ty) (y : (tyS l).D), ∀ v ∈ encs l y, ∀ q, v ≠ .tup q := by
    intro l
    induction l with
    | nil => intro y v hv; simp [encs] at hv
    | cons t r ih =>
      have he : ∀ (x : t.2.D) (q : List AV), encTy t x ≠ .tup q := by
        intro x q
        obtain ⟨ag, s⟩ := t
        cases ag with
        | true => simp [encTy]
        | false =>
          simp only [encTy]
          have hs : ∀ (s : Sch) (x : s.D), ∀ c ∈ s.enc x, ∀ q, c ≠ .tup q := by
            intro s
            induction s with
            | unit => intro x c hc; simp [Sch.enc] at hc
            | int k => intro x c hc; simp [Sch.enc] at hc; simp [hc]
            | bool => intro x c hc; simp [Sch.enc] at hc; simp [hc]
            | str => intro x c hc; simp [Sch.enc] at hc; simp [hc]
            | sl s _ => intro x c hc; simp [Sch.enc] at hc; simp [hc]
            | pair p q ihp ihq =>
              intro x c hc
              simp only [Sch.enc, List.mem_append] at hc
              rcases hc with hc | hc
              · exact ihp _ c hc
              · exact ihq _ c hc
          cases hx : s.enc x with
          | nil => simp
          | cons c r => simpa using hs s x c (by simp [hx]) q
      cases r with
      | nil =>
        intro y v hv q
        simp [encs] at hv
        subst hv
        exact he y q
      | cons t' r =>
        intro y v hv q
        simp only [encs, List.mem_cons] at hv
        rcases hv with rfl | hv
        · exact he y.1 q
        · exact ih y.2 v hv q
  unfold encRes
  split
  · rename_i v hv
    rw [hv] at h1
    cases vs with
    | nil => exact h1.elim
    | cons u r => cases r with
      | nil => exact h1.1
      | cons _ _ => exact h1.2.elim
  · rename_i vs' hne
    have hlen := h1.length
    have hp : packV vs = .tuple vs.toArray := by
      cases vs with
      | nil => rfl
      | cons u r => cases r with
        | nil =>
          exfalso
          cases he : encs l y with
          | nil => rw [he] at hlen; simp at hlen
          | cons q r' => cases r' with
            | nil => exact hne q he
            | cons _ _ => rw [he] at hlen; simp at hlen
        | cons _ _ => rfl
    rw [hp]
    exact ⟨vs.toArray, rfl, vr1_of h1 (hnot l y)⟩

/-- After a call. -/
theorem Rel.called (h : Rel B w0 S0 G outs σ a w) {S' : Cells} (hb : Below w.heap.size w w') (h1 : ∀ b o, G.S b o → S' b o) (h2 : ∀ b o, S' b o → G.S b o ∨ w.heap.size ≤ b) (h3 : ∀ b o, S' b o → b < w'.heap.size) : Rel B w0 S0 { S := S', M := G.M } outs σ a w' := by
  have hk : Keeps G.S w S' w' := fun b o hs => ⟨h1 b o hs, hb.cell (p := ⟨b, o, none⟩) (h.slt b o hs)⟩
  refine h.still (G' := { S := S', M := G.M }) hk rfl (fun p ob b c hp hm => ?_) (h.below.trans (hb.mono h.bsz)) (Nat.le_trans h.bsz hb.size) (fun b o hs => ?_) h3
  · have hlt := (h.obj p ob hp).lt hm
    refine ⟨hb.block b hlt, fun off hs => ?_⟩
    rcases h2 b off hs with hs | hs
    · exact hs
    · omega
  · rcases h2 b o hs with hs | hs
    · exact .inl hs
    · exact .inr (Nat.le_trans h.bsz hs)

end
end Go.Pi
end

section
namespace Go.Pi
open Go.RowKit
set_option linter.unusedSimpArgs false
set_option linter.unusedVariables false

/-- What is asked of the program as a whole. -/
structure ProgOK (P : Program) : Prop where
  quiet : (P.funcs.all fun fn => fn.name != "runtime.NumGoroutine") = true
  mixed : P.follows .mixedOrders = true

section
variable {P : Program} {B : Nat} {w0 : World} {S0 : Cells} {G G' : Gh} {outs : List (Array Value)} {σ : St} {a : Act} {w w' : World} {o : Oper} {look : Look}

abbrev WP (P : Program) (o : Oper) (a : Act) (w : World) (K : Act → World → Prop) (Q : Exit → Act → World → Prop) : Prop := o.wp P a w K Q ∨ (o.asks P a w ∧ LetsOut Q)

variable {K : Act → World → Prop} {Q : Exit → Act → World → Prop}

theorem wp_of_ok {e : Eff} (h : OpOK P B w0 S0 outs σ a w o e) (hk : ∀ v w' G', Rel B w0 S0 G' outs (appEff o.dst σ e.val e.upd) (a.put o.dst v) w' → e.room = true → K (a.put o.dst v) w') : WP P o a w K Q := by
  rcases h with ⟨v, w', G', hd, hR, hroom⟩ | h
  · refine .inl ?_
    rcases hd with hd | ⟨hd, rfl⟩
    · unfold Oper.wp; rw [hd]; exact hk v w' G' hR hroom
    · unfold Oper.wp; rw [hd]; exact hk Go.undef w' G' hR hroom
  · exact h.elim

/-- A call is entered. -/
theorem enter_run (hP : ProgOK P) {c : Call} (ho : o.op = .call c) {fv : Operand} (hc : c.callee = .value fv) {f : FuncId} {caps : Array Value} (hv : a.eval fv = .func (.func f) #[] caps) {fn : Func} (hf : P.funcs[f]? = some fn) (hb : fn.body.isSome = true) :
    (execOp a.eval o).run P w = .ok (.enter f ((c.args.toList.map a.eval ++ caps.toList).toArray)) w := by
  have hn : (fn.name == "runtime.NumGoroutine") = false := by
    have h1 := Array.all_eq_true_iff_forall_mem.1 hP.quiet fn (Array.mem_of_getElem? hf)
    cases hh : (fn.name == "runtime.NumGoroutine") with
    | false => rfl
    | true => simp [bne, hh] at h1
  have hbn : fn.body.isNone = false := by cases hh : fn.body <;> simp_all
  have hargs : (c.args.toList.map a.eval ++ caps.toList).toArray = #[] ++ c.args.map a.eval ++ caps := by
    apply Array.ext'
    simp
  rw [hargs]
  unfold execOp
  simp only [ho, resolve, hc, hv, Deferred.ofValue, invoke, callFunc, Sem.run_bind, Sem.run_pure, Result.andThen_ok]
  have hn' : ¬ (fn.name = "runtime.NumGoroutine") := by simpa using hn
  have hbn' : ¬ (fn.body = none) := by intro e; simp [e] at hb
  simp [program, Sem.run, hf, hn', hbn']

theorem wp_enter {f : FuncId} {args : Array Value} (hr : (execOp a.eval o).run P w = .ok (.enter f args) w) (h : Calls P f args w fun
    | .returned v, w'' => K (a.put o.dst v) w''
    | .panicked chain, w'' => Q (.panic chain) a w''
    | .outgrown, _ => LetsOut Q) : o.wp P a w K Q := by
  unfold Oper.wp
  rw [hr]
  exact h

theorem op_call (hP : ProgOK P) {E : Env} (hE : EnvOK P E) (h : Rel B w0 S0 G outs σ a w) {c : Call} (ho : o.op = .call c) {fv : Operand} (hc : c.callee = .value fv) {f : FuncId} (hf : ev σ.tm fv = .fn f []) {en : Entry} (hen : elk f E = some en)
    {x : (tyS en.doms).D} (hx : decs (lks σ) en.doms (c.args.toList.map (ev σ.tm)) = some x) (hpre : preH (preOf en x))
    (hk : ∀ v w', Ret G.S w en.cods (en.fn x) v w' → (en.uq = true → RetU G.S w en.cods (en.fn x) v w') → K (a.put o.dst v) w') : o.wp P a w K Q := by
  have hv := ev_rel h fv
  rw [hf] at hv
  obtain ⟨caps, hv, hcaps⟩ := hv
  have hc0 : caps.toList = [] := by
    cases hl : caps.toList with
    | nil => rfl
    | cons _ _ => rw [hl] at hcaps; exact hcaps.elim
  obtain ⟨⟨fn, hfn, hb⟩, htot, hE⟩ := hE f en hen
  have hpre : en.pre x := by
    unfold preOf at hpre
    split at hpre
    · rename_i ht
      exact htot ht x
    · exact hpre
  have hr := enter_run (w := w) hP ho hc hv hfn hb
  rw [hc0, List.append_nil] at hr
  have ht := decs_rel h.obj (evs_rel h c.args.toList) hx
  refine wp_enter hr (Calls.mono (hE G.S w _ x h.slt ht hpre) fun e w' he => ?_)
  cases e with
  | returned v => exact hk v w' he.1 he.2
  | panicked chain => exact he.elim
  | outgrown => exact he.elim

theorem op_callPure (hP : ProgOK P) {E : Env} (hE : EnvOK P E) (h : Rel B w0 S0 G outs σ a w) {c : Call} (ho : o.op = .call c) {fv : Operand} (hc : c.callee = .value fv) {f : FuncId} (hf : ev σ.tm fv = .fn f []) {en : Entry} (hen : elk f E = some en)
    {x : (tyS en.doms).D} (hx : decs (lks σ) en.doms (c.args.toList.map (ev σ.tm)) = some x) (hpre : preH (preOf en x))
    (hk : ∀ v w' G', Rel B w0 S0 G' outs (appEff o.dst σ (encRes en.cods (en.fn x)) []) (a.put o.dst v) w' → K (a.put o.dst v) w') : o.wp P a w K Q := by
  refine op_call hP hE h ho hc hf hen hx hpre fun v w' hret _ => ?_
  obtain ⟨hbl, S', h1, h2, h3, vs, hvs, rfl⟩ := hret
  have hR := h.called hbl h1 h2 h3
  exact hk _ _ _ (hR.put o.dst (encRes_rel (G := { S := S', M := G.M }) hvs))

/-- The one slice becomes an object. -/
theorem op_callOwn (hP : ProgOK P) {E : Env} (hE : EnvOK P E) (h : Rel B w0 S0 G outs σ a w) {c : Call} (ho : o.op = .call c) {fv : Operand} (hc : c.callee = .value fv) {f : FuncId} (hf : ev σ.tm fv = .fn f []) {en : Entry} (hen : elk f E = some en)
    {x : (tyS en.doms).D} (hx : decs (lks σ) en.doms (c.args.toList.map (ev σ.tm)) = some x) {site : Nat} {e : Eff} (he : callOwn (lks σ) site en x = some e) (hpre : preH (preOf en x))
    (hk : ∀ v w' G', Rel B w0 S0 G' outs (appEff o.dst σ e.val e.upd) (a.put o.dst v) w' → K (a.put o.dst v) w') : o.wp P a w K Q := by
  unfold callOwn at he
  split at he
  · rename_i huq hsite
    split at he
    · rename_i ex s ys henc
      obtain rfl := Option.some.inj he
      refine op_call hP hE h ho hc hf hen hx hpre fun v w' _ hretU => ?_
      obtain ⟨hbl, S', h1, h2, h3, s', ys', mo, henc', hpos, hA, hrv⟩ := hretU huq
      rw [henc] at henc'
      simp at henc'
      obtain ⟨_, rfl, e2⟩ := henc'
      have e3 := eq_of_heq e2
      subst e3
      have hR := h.called hbl h1 h2 h3
      have hBw : B ≤ w.heap.size := h.bsz
      have hR2 := hR.upd1 (G' := { S := S', M := fun p => if p = site then mo else G.M p }) site (.arr .uniq 0 s ys) σ.dt (site :: σ.dob) (Keeps.refl _ _) (fun p ob e _ => by simp [e]) (fun p ob b c _ _ _ => ⟨rfl, fun _ h => h⟩)
        (by
          have hs2 : lk site σ.sto = none := hsite
          rw [hs2]; trivial)
        ⟨hpos, by
          simp only [if_pos]
          cases mo with
          | none => exact hA
          | some q =>
            obtain ⟨b, cap⟩ := q
            exact ⟨Nat.le_trans hBw hA.1, hA.2⟩⟩
        (fun p ob b c c' e hp hb hb' => by
          simp at hb'
          subst hb'
          have hlt := (h.obj p ob hp).lt hb
          have := hA.1
          omega) hR.below hR.bsz (fun _ _ h => .inl h) hR.slt
      refine hk v w' _ (hR2.put o.dst (av := .ref site 0) ?_)
      refine refV_ref (n := ys.length) (xs := ys) (s := s) (m := .uniq) ?_ (by simp [lks, lk_ups]) rfl rfl (by simpa using hrv)
      cases mo with
      | none => obtain ⟨_, rfl⟩ := hrv; trivial
      | some q => simp only [RefV] at hrv; subst hrv; trivial
    · simp at he
  · simp at he

end
end Go.Pi
end

section
namespace Go.Pi
open Go.RowKit
set_option linter.unusedSimpArgs false
set_option linter.unusedVariables false

theorem withPre_iff {p : Option Prop} {k : Prop} : withPre p k ↔ preH p ∧ k := by
  cases p <;> simp [withPre, preH]

theorem br_true {b : Bool} {x y : Prop} (hb : b = true) (h : br b x y) : x := by subst hb; exact h
theorem br_false {b : Bool} {x y : Prop} (hb : b = false) (h : br b x y) : y := by subst hb; exact h
theorem br_no {b : Bool} {x : Prop} (h : br b x False) : b = true ∧ x := by cases b; exact h.elim; exact ⟨rfl, h⟩

section
variable {P : Program} {B : Nat} {w0 : World} {S0 : Cells} {G G' : Gh} {outs : List (Array Value)} {σ : St} {a : Act} {w w' : World} {o : Oper} {look : Look}
variable {K : Act → World → Prop} {Q : Exit → Act → World → Prop}

theorem plainT_parts {t : TypeId} (h : plainT P t = true) : ∃ d, P.underlying t = some d ∧ ∀ ms, d ≠ .interface ms := by
  unfold plainT at h
  cases hu : P.underlying t with
  | none => simp [hu] at h
  | some d =>
    refine ⟨d, rfl, fun ms e => ?_⟩
    subst e
    simp [hu] at h

theorem elemT_under {t e : TypeId} (h : elemT P t = some e) : P.underlying t = some (.slice e) := by
  unfold elemT at h
  split at h
  · rename_i e' hu
    simp at h; subst h; exact hu
  · simp at h

set_option maxHeartbeats 4000000 in
theorem opF_sound (hP : ProgOK P) {E : Env} (hE : EnvOK P E) {own : List Nat} {site : Nat} (h : Rel B w0 S0 G outs σ a w) {e : Eff} (he : opF P E own site (ev σ.tm) (lks σ) o = some e) (hc : e.chk = true) (hpre : preH e.pre)
    (hk : ∀ v w' G', Rel B w0 S0 G' outs (appEff o.dst σ e.val e.upd) (a.put o.dst v) w' → e.room = true → K (a.put o.dst v) w') : WP P o a w K Q := by
  have fin : OpOK P B w0 S0 outs σ a w o e → WP P o a w K Q := fun hok => wp_of_ok hok hk
  cases ho : o.op <;> simp only [opF, ho] at he <;> try (simp at he; done)
  case move x => exact fin (op_move h (.inl ho) he)
  case assign x => exact fin (op_move h (.inr ho) he)
  case pick c x y =>
    split at he
    · rename_i b hb
      exact fin (op_pick h ho hb (by cases b <;> exact he))
    · simp at he
  case alloc t =>
    split at he
    · rename_i zs hs hz
      split at he
      · rename_i m el hu
        split at he
        · rename_i hpos
          split at he
          · rename_i xs hx
            obtain rfl := Option.some.inj he
            exact fin (op_alloc h ho hs hz (.inr ⟨_, m, xs, hpos, hx, rfl⟩))
          · simp at he
        · simp at he
      · obtain rfl := Option.some.inj he
        exact fin (op_alloc h ho hs hz (.inl rfl))
    · simp at he
  case box t x =>
    split at he
    · rename_i vs hs hz
      split at he
      · rename_i m el hu
        split at he
        · rename_i hpos
          split at he
          · rename_i xs hx
            obtain rfl := Option.some.inj he
            exact fin (op_box h ho hs hz (.inr ⟨_, m, xs, hpos, hx, rfl⟩))
          · simp at he
        · simp at he
      · obtain rfl := Option.some.inj he
        exact fin (op_box h ho hs hz (.inl rfl))
    · simp at he
  case load t x =>
    split at he
    · rename_i r hr
      split at he
      · rename_i hok
        exact fin (op_load h ho hr hok he hc)
      · simp at he
    · simp at he
  case store t x y =>
    split at he
    · rename_i vs hz
      split at he
      · rename_i hok
        split at he
        · rename_i u hu
          obtain rfl := Option.some.inj he
          exact fin (op_store h ho hz hok.1 hok.2 hu hc)
        · simp at he
      · simp at he
    · simp at he
  case fieldAddr t x f =>
    split at he
    · rename_i fs hu
      split at he
      · rename_i fd hf
        split at he
        · simp at he
        · rename_i hcond
          simp only [not_or, Bool.not_eq_true, Option.isNone_eq_false_iff, Bool.not_eq_false] at hcond
          exact fin (op_fieldAddr h ho hu hf hcond.1 hcond.2.1 hcond.2.2 he)
      · simp at he
    · simp at he
  case indexAddr t x i =>
    have close : ∀ {av : AV} {c : Bool}, chk1 c av = some e → (∃ v, Done P o a w v w ∧ VR G w (lks σ) av v) → WP P o a w K Q := by
      intro av c h1 ⟨v, hd, hv⟩
      refine fin ?_
      rw [chk1_eq h1]
      exact OpOK.of_value h hv hd
    split at he
    · rename_i k n hi
      split at he
      · rename_i m el ob off hu hx
        split at he
        · rename_i m' ver s xs hob
          split at he
          · split at he
            · rename_i hcond
              obtain ⟨hs, rfl, hinf⟩ := hcond
              have hc' := hc
              rw [chk1_eq he] at hc'
              simp at hc'
              exact close he (op_indexAddr h ho hi hc'.1 hinf (.inl ⟨m', ob, ver, s, xs, hu, hx, hob, hs, hc'.2, rfl⟩))
            · simp at he
          · simp at he
        · rename_i fz cs hob
          split at he
          · rename_i hel
            obtain ⟨hinf, hs⟩ := elOk_parts hel
            have hc' := hc
            rw [chk1_eq he] at hc'
            simp at hc'
            exact close he (op_indexAddr h ho hi hc'.1 hinf (.inr (.inl ⟨m, ob, off, fz, cs, hu, hx, hob, hs, hc'.2, rfl⟩)))
          · simp at he
        · simp at he
      · rename_i el ex s xs hu hx
        split at he
        · rename_i hcond
          have hc' := hc
          rw [chk1_eq he] at hc'
          simp at hc'
          exact close he (op_indexAddr h ho hi hc'.1 hcond.2 (.inr (.inr (.inl ⟨ex, s, xs, hu, hx, hcond.1, hc'.2, rfl⟩))))
        · simp at he
      · rename_i el ob ver hu hx
        split at he
        · rename_i m ver' s xs hob
          split at he
          · rename_i hver
            subst hver
            split at he
            · rename_i hcond
              have hc' := hc
              rw [chk1_eq he] at hc'
              simp at hc'
              exact close he (op_indexAddr h ho hi hc'.1 hcond.2 (.inr (.inr (.inr ⟨ob, ver, m, s, xs, hu, hx, hob, hcond.1, hc'.2, rfl⟩))))
            · simp at he
          · simp at he
        · simp at he
      · simp at he
    · simp at he
  case index t x i =>
    split at he
    · rename_i m el cs k n hu hx hi
      split at he
      · rename_i hel
        split at he
        · rename_i xs hd
          exact fin (op_index h ho hu hx hi hel.1 hel.2 hd hc he)
        · simp at he
      · simp at he
    · rename_i s k n hu hx hi
      exact fin (op_indexStr h ho hu hx hi hc he)
    · simp at he
  case field t x f =>
    split at he
    · rename_i fs cs hu hx
      split at he
      · rename_i fd hf
        split at he
        · rename_i hcond
          exact fin (op_field h ho hu hf hx hcond.1 hcond.2 he)
        · simp at he
      · simp at he
    · simp at he
  case binOp op t x y t' =>
    split at he
    · rename_i k n k' m hx hy
      split at he
      · exact fin (op_shift h ho hx hy hc (.inl ⟨rfl, he⟩))
      · exact fin (op_shift h ho hx hy hc (.inr ⟨rfl, he⟩))
      · rename_i h1 h2
        split at he
        · rename_i hkk
          subst hkk
          exact fin (op_binInt h ho hx hy ⟨fun e => h1 e, fun e => h2 e⟩ he hc)
        · simp at he
    · rename_i n m hx hy
      split at he
      · rename_i hu
        split at he
        · exact fin (op_binBool h ho hx hy hu (.inl ⟨rfl, he⟩))
        · exact fin (op_binBool h ho hx hy hu (.inr ⟨rfl, he⟩))
        · simp at he
      · simp at he
    · rename_i n m hx hy
      exact fin (op_binStr h ho hx hy hc (by split at he <;> first | exact he | (simp at he; done)))
    · rename_i n m hx hy
      split at he
      · simp at he
      · rename_i hcond
        simp only [not_or, Bool.not_eq_true, Bool.not_eq_false] at hcond
        split at he
        · rename_i c heq
          exact fin (op_binAgg h ho hx hy hcond.1 hcond.2 heq (.inl ⟨rfl, he⟩))
        · rename_i c heq
          exact fin (op_binAgg h ho hx hy hcond.1 hcond.2 heq (.inr ⟨rfl, he⟩))
        · simp at he
    · rename_i ex sc xs hx hy
      split at he
      · rename_i el hu
        exact fin (op_binNil h ho hx hy hu hc (.inl ⟨rfl, he⟩))
      · rename_i el hu
        exact fin (op_binNil h ho hx hy hu hc (.inr ⟨rfl, he⟩))
      · simp at he
    · simp at he
  case unOp op t x =>
    split at he
    · rename_i k n hx
      exact fin (op_unOp h ho (.inl ⟨k, n, rfl, hx, he⟩))
    · rename_i b hx
      exact fin (op_unOp h ho (.inr ⟨b, rfl, hx, he⟩))
    · simp at he
  case convert src dst x =>
    split at he
    · rename_i k k' n hd hx
      split at he
      · rename_i hs
        exact fin (op_convert h ho hd hs hx he)
      · simp at he
    · simp at he
  case build t ps =>
    split at he
    · rename_i zs hz
      split at he
      · simp at he
      · rename_i hb
        split at he
        · rename_i cs hf
          exact fin (op_build h ho hz (by simpa using hb) hf he)
        · simp at he
    · simp at he
  case buildSlice t len ps =>
    split at he
    · rename_i el hel
      split at he
      · rename_i zs hz
        split at he
        · rename_i z hd
          split at he
          · rename_i hcond
            split at he
            · rename_i xs hs
              split at he
              · exact fin (op_buildSlice h ho (elemT_under hel) hz hd hcond.1 hcond.2.1 hcond.2.2 hs he)
              · split at he
                · rename_i hsite
                  obtain rfl := Option.some.inj he
                  exact fin (op_buildSliceOwn h ho (elemT_under hel) hz hd hcond.1 hcond.2.1 hcond.2.2 hs hsite)
                · simp at he
            · simp at he
          · simp at he
        · simp at he
      · simp at he
    · simp at he
  case extract x i =>
    split at he
    · rename_i vs hx
      split at he
      · rename_i hi
        exact fin (op_extract h ho hx hi he)
      · simp at he
    · simp at he
  case makeFunc fv first cap =>
    split at he
    · rename_i f l hfst hl
      exact fin (op_makeFunc h ho hfst hl he)
    · simp at he
  case makeSlice t x y =>
    split at he
    · rename_i el n c hel hx hy
      split at he
      · simp at he
      · rename_i hsite
        split at he
        · rename_i z hz
          split at he
          · rename_i hcond
            cases hzz : zeroCs P el with
            | none => simp [hzz] at hz
            | some zs =>
              simp [hzz] at hz
              exact fin (op_makeSlice h ho (elemT_under hel) hx hy hzz hz hcond.1 hcond.2.1 hcond.2.2 hsite hc he)
          · simp at he
        · simp at he
    · simp at he
  case slice t x lo hi mx =>
    split at he
    · rename_i l r hmx hl hr
      split at he
      · rename_i el hel
        split at he
        · rename_i xs hx
          split at he
          · rename_i hcond
            exact fin (op_slice h ho (elemT_under hel) hl hr hx hcond.1 hc he)
          · simp at he
        · simp at he
      · split at he
        · rename_i s hu hx
          exact fin (op_sliceStr h ho hu hl hr hx hc he)
        · simp at he
    · simp at he
  case makeInterface t x =>
    split at he
    · rename_i hp
      obtain ⟨d, hu, hd⟩ := plainT_parts hp
      exact fin (op_makeInterface h ho hu hd he)
    · simp at he
  case call c =>
    cases hcal : c.callee <;> simp only [hcal] at he <;> try (simp at he; done)
    case builtin bi =>
      cases bi <;> simp only [] at he <;> try (simp at he; done)
      case len =>
        split at he
        · rename_i t x ht hx
          split at he
          · rename_i n el hu
            exact fin (op_len h ho hcal ht hx (.inl ⟨n, el, hu, he⟩))
          · rename_i el hu
            split at he
            · rename_i n hl
              exact fin (op_len h ho hcal ht hx (.inr (.inl ⟨el, n, hu, hl, he⟩)))
            · simp at he
          · rename_i hu
            split at he
            · rename_i s hs
              exact fin (op_len h ho hcal ht hx (.inr (.inr ⟨s, hu, hs, he⟩)))
            · simp at he
          · simp at he
        · simp at he
      case append =>
        split at he
        · rename_i t t' x y ht ht' hx hy
          split at he
          · rename_i el el' hel hel'
            split at he
            · rename_i hcond
              obtain ⟨h1, h2, h3, h4, h5, h6⟩ := hcond
              have hop : o.op = .call { callee := .builtin .append, args := #[x, y], argTypes := #[t, t'] } := by
                rw [ho]
                obtain ⟨cal, args, ats⟩ := c
                simp only at hcal ht ht' hx hy h5 h6
                subst hcal
                have e1 : args = #[x, y] := by
                  apply Array.ext
                  · simpa using h5
                  · intro i hi1 hi2
                    have : i = 0 ∨ i = 1 := by simp at hi2; omega
                    rcases this with rfl | rfl
                    · have := Array.getElem?_eq_getElem hi1; rw [hx] at this; simpa using this.symm
                    · have := Array.getElem?_eq_getElem hi1; rw [hy] at this; simpa using this.symm
                have e2 : ats = #[t, t'] := by
                  apply Array.ext
                  · simpa using h6
                  · intro i hi1 hi2
                    have : i = 0 ∨ i = 1 := by simp at hi2; omega
                    rcases this with rfl | rfl
                    · have := Array.getElem?_eq_getElem hi1; rw [ht] at this; simpa using this.symm
                    · have := Array.getElem?_eq_getElem hi1; rw [ht'] at this; simpa using this.symm
                rw [e1, e2]
              split at he
              · rename_i ys hys
                unfold appF at he
                split at he
                · rename_i hnil
                  split at he
                  · rename_i hsite
                    obtain rfl := Option.some.inj he
                    exact fin (op_append_nil h hop (elemT_under hel) (elemT_under hel') h1 h2 h3 h4 hys hnil hsite hc)
                  · simp at he
                · rename_i s' xs hxs
                  split at he
                  · rename_i hs
                    subst hs
                    obtain rfl := Option.some.inj he
                    exact fin (op_append_exact h hop (elemT_under hel) (elemT_under hel') h1 h2 h3 h4 hys hxs hc)
                  · simp at he
                · rename_i ob ver hxr
                  split at he
                  · rename_i m ver' s' xs hob
                    split at he
                    · rename_i hver
                      subst hver
                      split at he
                      · rename_i hs
                        subst hs
                        split at he
                        · obtain rfl := Option.some.inj he
                          exact fin (op_append_ref h hop (elemT_under hel) (elemT_under hel') h1 h2 h3 h4 hys hxr hob rfl hc)
                        · obtain rfl := Option.some.inj he
                          exact fin (op_append_ref h hop (elemT_under hel) (elemT_under hel') h1 h2 h3 h4 hys hxr hob rfl hc)
                        · simp at he
                      · simp at he
                    · simp at he
                  · simp at he
                · simp at he
              · simp at he
            · simp at he
          · simp at he
        · simp at he
      case max =>
        split at he
        · rename_i k n r hx
          split at he
          · rename_i v hf
            exact fin (op_maxmin h ho true hcal hx hf he)
          · simp at he
        · simp at he
      case min =>
        split at he
        · rename_i k n r hx
          split at he
          · rename_i v hf
            exact fin (op_maxmin h ho false hcal hx hf he)
          · simp at he
        · simp at he
    case value fv =>
      split at he
      · rename_i f hf
        split at he
        · rename_i en hen
          split at he
          · rename_i x hx
            split at he
            · obtain rfl := Option.some.inj he
              exact .inl (op_callPure hP hE h ho hcal hf hen hx hpre fun v w' G' hR => hk v w' G' hR rfl)
            · have he0 := he
              unfold callOwn at he0
              split at he0
              · split at he0
                · obtain rfl := Option.some.inj he0
                  exact .inl (op_callOwn hP hE h ho hcal hf hen hx he hpre fun v w' G' hR => hk v w' G' hR rfl)
                · simp at he0
              · simp at he0
          · simp at he
        · simp at he
      · simp at he

end
end Go.Pi
end

section
namespace Go.Pi
open Go.RowKit
set_option linter.unusedSimpArgs false
set_option linter.unusedVariables false

section
variable {P : Program} {B : Nat} {w0 : World} {S0 : Cells} {G G' : Gh} {outs : List (Array Value)} {σ : St} {a : Act} {w w' : World} {o : Oper} {look : Look}
variable {K : Act → World → Prop} {Q : Exit → Act → World → Prop} {E : Env} {own : List Nat} {inl : Inl}

/-- What is to be shown of calls that are entered. -/
def InlOK (P : Program) (inl : Inl) : Prop :=
  ∀ (B : Nat) (w0 : World) (S0 : Cells) (outs : List (Array Value)) (site f : Nat) (avs : List AV) (σ : St) (k : AV → St → Prop), inl site f avs σ k →
    (∃ fn, P.funcs[f]? = some fn ∧ fn.body.isSome = true) ∧
    ∀ (G : Gh) (a : Act) (w : World) (args : List Value) (R : Ending → World → Prop), Rel B w0 S0 G outs σ a w → All2 (VR G w (lks σ)) avs args →
      (∀ av v σ' G' w', k av σ' → Pres σ σ' → Rel B w0 S0 G' outs σ' a w' → VR G' w' (lks σ') av v → R (.returned v) w') → Calls P f args.toArray w R

theorem caps_vr {caps : List Value} : ∀ {l : List Nat}, All2 (fun o v => PtrR G look o 0 v) l caps → All2 (VR G w look) (l.map fun p => .ptr p 0) caps := by
  induction caps with
  | nil => intro l h; cases l with
    | nil => trivial
    | cons _ _ => exact h.elim
  | cons v r ih => intro l h; cases l with
    | nil => exact h.elim
    | cons o l => exact ⟨h.1, ih h.2⟩

theorem Pres.eff (σ : St) (dst : Option Tmp) (av : AV) (upd : List (Nat × Ob)) : Pres σ (appEff dst σ av upd) := by
  have h1 : ∀ (upd : List (Nat × Ob)) (s : List (Nat × Ob)) (p : Nat), (∃ u ∈ upd, u.1 = p) ∨ lk p (upd.foldl (fun s u => ups u.1 u.2 s) s) = lk p s := by
    intro upd
    induction upd with
    | nil => intro s p; exact .inr rfl
    | cons u r ih =>
      intro s p
      rcases ih (ups u.1 u.2 s) p with ⟨v, hv, e⟩ | h2
      · exact .inl ⟨v, .tail _ hv, e⟩
      · by_cases e : p = u.1
        · exact .inl ⟨u, .head _, e.symm⟩
        · refine .inr ?_
          rw [List.foldl_cons, h2, lk_ups, if_neg e]
  have hob : ∀ p, p ∈ (upd.map (·.1) ++ σ.dob) ∨ ∀ ob, lk p (upd.foldl (fun s u => ups u.1 u.2 s) σ.sto) = some ob → lk p σ.sto = some ob := by
    intro p
    rcases h1 upd σ.sto p with ⟨u, hu, e⟩ | h2
    · exact .inl (List.mem_append_left _ (List.mem_map.2 ⟨u, hu, e⟩))
    · exact .inr fun ob h => by rw [← h2]; exact h
  cases dst with
  | none => exact ⟨fun _ => .inr (.inl rfl), fun _ h => h, hob, fun p hp => List.mem_append_right _ hp, rfl, rfl⟩
  | some d =>
    refine ⟨fun t => ?_, fun t ht => .tail _ ht, hob, fun p hp => List.mem_append_right _ hp, rfl, by simp [appEff]⟩
    by_cases h : t = d
    · exact .inl (by simp [appEff, h])
    · refine .inr (.inl ?_)
      show get (σ.tm.set d av) t = _
      rw [get_set, if_neg (fun e => h e.1)]

theorem op_sliceArr (h : Rel B w0 S0 G outs σ a w) {q : AV × Nat × Ob} (he : sliceArr P σ o = some q) :
    ∃ u G', Done P o a w u w ∧ Rel B w0 S0 G' outs (appEff o.dst σ q.1 [q.2]) (a.put o.dst u) w := by
  unfold sliceArr at he
  split at he
  · rename_i t x ho
    split at he
    · rename_i m e p off hu hx
      split at he
      · rename_i fz cs hp
        split at he
        · rename_i hcond
          obtain ⟨hel, hpos, hm0, hm, hfit⟩ := hcond
          split at he
          · rename_i xs hxs
            obtain rfl := Option.some.inj he
            obtain ⟨hinf, hsz⟩ := elOk_parts hel
            have hv := ev_rel h x
            rw [hx] at hv
            obtain ⟨_, b, c, hM, hv⟩ := hv
            obtain ⟨b', c', vs, ty, hM', hB, hh, hcs, hS⟩ := h.obj p _ hp
            rw [hM] at hM'
            simp only [Option.some.injEq, Prod.mk.injEq] at hM'
            obtain ⟨rfl, rfl⟩ := hM'
            have hlt : b < w.heap.size := (Array.getElem?_eq_some_iff.1 hh).1
            have hvl := hcs.length
            simp only [Array.length_toList] at hvl
            obtain ⟨hxl, hdn⟩ := decN_rel ((hcs.drop off).take (m * szOf P e)) hxs
            obtain ⟨S', hS'⟩ : ∃ S' : Cells, S' = fun b' o' => G.S b' o' ∨ (b' = b ∧ off ≤ o' ∧ o' < off + m * szOf P e) := ⟨_, rfl⟩
            have hk : Keeps G.S w S' w := fun b' o' hs => ⟨by rw [hS']; exact .inl hs, rfl⟩
            have hx0 : Ext G w (lks σ) { S := S', M := G.M } w (fun q => lk q (ups p (.cells true cs) σ.sto)) :=
              Ext.upd1 (G' := { S := S', M := G.M }) hk (fun _ _ _ _ => rfl) (by rw [hp]; exact ⟨rfl, true, cs, rfl⟩)
            have hR := h.upd1 (G' := { S := S', M := G.M }) p (.cells true cs) σ.dt (p :: σ.dob) hk (fun _ _ _ _ => rfl)
              (fun p' ob' b' c' e' hp' hb' => ⟨rfl, fun off' hs => by
                rw [hS'] at hs
                rcases hs with hs | ⟨rfl, _⟩
                · exact hs
                · exact (e' (h.inj p' p ob' _ b' c' c hp' hp hb' hM)).elim⟩)
              (by rw [hp]; exact ⟨rfl, true, cs, rfl⟩)
              ⟨b, c, vs, ty, hM, hB, hh, hcs.imp fun _ _ hc => CR.ext hx0 hc, fun e' => by cases e'⟩
              (fun p' ob' b' c' c3 e' hp' hb' hb3 => e' (h.inj p' p ob' _ b' c' c3 hp' hp hb' hb3)) h.below h.bsz
              (fun b' off' hs => by
                rw [hS'] at hs
                rcases hs with hs | ⟨rfl, _⟩
                · exact .inl hs
                · exact .inr hB)
              (fun b' off' hs => by
                rw [hS'] at hs
                rcases hs with hs | ⟨rfl, _⟩
                · exact h.slt _ _ hs
                · exact hlt)
            refine ⟨.slice (some ⟨b, off, none⟩) m m, _, .inl ?_, hR.put o.dst (av := .sl false (sch P e) xs) ⟨?_, fun e' => by cases e'⟩⟩
            · unfold execOp
              have hev : a.eval x = .pointer (some ⟨b, off, none⟩) := hv
              simp only [ho, hev, Option.map_none, Instr.sliceAt, Instr.sureAddr, Sem.run_bind, run_underlying hu w, Result.andThen_ok, Sem.run_pure, Instr.sliceBounds, size_run hinf w]
              have hm1 : m ≠ 0 := by omega
              simp [hm1, addr_add]
            · refine ⟨_, m, by rw [hxl], by rw [hxl]; exact Nat.le_refl _, by omega, fun _ => ⟨b, off, rfl, fun i y hy => ?_⟩⟩
              have hi : i < m := by
                rw [← hxl]
                exact (List.getElem?_eq_some_iff.1 hy).1
              refine ⟨_, DR.mono hk (hdn.2 i y hy), fun j u hu' => ?_⟩
              rw [List.getElem?_take] at hu'
              split at hu'
              · rename_i hj
                rw [List.getElem?_drop, List.getElem?_take] at hu'
                split at hu'
                · rename_i hj2
                  rw [List.getElem?_drop] at hu'
                  refine ⟨by rw [hS']; exact .inr ⟨rfl, by omega, by omega⟩, ?_⟩
                  rw [cell_of_block hh]
                  simpa [Nat.add_assoc] using hu'
                · cases hu'
              · cases hu'
          · cases he
        · cases he
      · cases he
    · cases he
  · cases he

theorem cap_nil {c : Call} (hc : c.callee = .builtin .cap) (ho : o.op = .call c) {t el : TypeId} {x : Operand} (ht : c.argTypes[0]? = some t) (hx : c.args[0]? = some x) (hu : P.underlying t = some (.slice el)) (hv : a.eval x = .slice none 0 0) :
    (execOp a.eval o).run P w = .ok (.value (.int .i64 0)) w := by
  have hargs : (c.args.map a.eval)[0]? = some (a.eval x) := by simp [hx]
  have hr : (Builtin.cap_ c.argTypes o.type (c.args.map a.eval)).run P w = .ok (.int .i64 0) w := by
    unfold Builtin.cap_
    simp only [ht, hargs, hv, Sem.run_bind, run_underlying hu w, Result.andThen_ok]
    rfl
  unfold execOp
  simp [ho, hc, resolve, invoke, builtin, hr]

theorem op_zeros (h : Rel B w0 S0 G outs σ a w) {t tn el : TypeId} {kq kn : IntKind} {x y : Operand} (ho : o.op = .call { callee := .builtin .append, args := #[x, y], argTypes := #[t, tn] }) (ht : P.underlying t = some (.slice el)) (htn : P.underlying tn = some (.int kn)) {n : Int}
    (hx : ev σ.tm x = .nils) (hy : ev σ.tm y = .int kq n) {zs : List AV} (hz : zeroCs P el = some zs) {z : (sch P el).D} (hd : (sch P el).dec zs = some (z, [])) (hel : elOk P el = true) (hpos : 0 < szOf P el) (hby : 0 < bytesOfT P el) {site : Nat} (hsite : lk site σ.sto = none)
    (hn : 0 < n) (hroom : roomOk n.toNat (bytesOfT P el) = true) :
    ∃ u G' w', Done P o a w u w' ∧ Rel B w0 S0 G' outs (appEff o.dst σ (.ref site 0) [(site, .arr .uniq 0 (sch P el) (List.replicate n.toNat z))]) (a.put o.dst u) w' := by
  simp only [decide_eq_true_eq, roomOk] at hroom
  obtain ⟨hinf, hsz⟩ := elOk_parts hel
  obtain ⟨i, zv, hi, hiz, hzr, hzd⟩ := zero_dr hz hd
  have hbi : bytesOfT P el = i.bytes := by simp [bytesOfT, hi]
  have hsi : szOf P el = i.size := by simp [szOf, hi]
  have hle : n.toNat ≤ n.toNat * bytesOfT P el := Nat.le_mul_of_pos_right _ hby
  have hxv : a.eval x = .slice none 0 0 := by have := ev_rel h x; rw [hx] at this; exact this
  have hyv := ev_rel h y; rw [hy] at hyv; have hyv := hyv.int
  have hr := Lib.run_append_nil_zeros (P := P) w t tn o.type el i zv kq kn ht htn hi hiz n.toNat (by omega) (by omega) (by omega) (by rw [← hbi]; omega)
  rw [show ((n.toNat : Nat) : Int) = n by omega, ← hyv] at hr
  have hzl : zv.cells.size = (sch P el).size := by have := (hzd G.S w).length; simpa using this
  have hmade := (madeCells_drn (hzd G.S w) (show 0 < (sch P el).size by omega) n.toNat).drew
  have he : Builtin.zeroCells zv.cells n.toNat = madeCells zv.cells (n.toNat * (sch P el).size) := by
    rw [← hzl]; rfl
  rw [he] at hr
  have hge := grownCap_ge w n.toNat 0 el
  have hcm := grownCap_le_maxLen w n.toNat 0 el (by simp only [maxLen]; omega)
  have hR := h.drew.moveOb (site := site) (k := 0) (.arr .uniq 0 (sch P el) (List.replicate n.toNat z)) (madeCells zv.cells (n.toNat * (sch P el).size) ++ Builtin.zeroCells zv.cells (grownCap w n.toNat 0 el - n.toNat)) el (grownCap w n.toNat 0 el) σ.dt (site :: σ.dob) (by rw [hsite]; trivial)
    (fun hk look' => arr_new (w := w.drew) (k := 0) (m := .uniq) (ver := 0) (xs := List.replicate n.toNat z) (ty := el) (s := sch P el) h.bsz h.slt (by omega) rfl (by
      simp only [Array.size_append, size_madeCells, size_zeroCells, hzl, ← Nat.add_mul]
      congr 1
      omega) (by simpa using hge) (by simp only [maxLen] at hcm; omega) (by have := drn_take hmade (Builtin.zeroCells zv.cells (grownCap w n.toNat 0 el - n.toNat)).toList; simpa using this) rfl hk look')
  refine ⟨_, _, _, app_done ho hxv hr, hR.put o.dst (av := .ref site 0) ?_⟩
  exact refV_ref (n := n.toNat) (xs := List.replicate n.toNat z) (s := sch P el) (m := .uniq) trivial (by simp [lks, lk_ups]) rfl (by simp) (by simp [RefV])

theorem op_spec (h : Rel B w0 S0 G outs σ a w) {site : Nat} {q : Bool × AV × List (Nat × Ob)} (he : specF P site σ o = some q) (hq : q.1 = true) :
    ∃ u G' w', Done P o a w u w' ∧ Rel B w0 S0 G' outs (appEff o.dst σ q.2.1 q.2.2) (a.put o.dst u) w' := by
  unfold specF at he
  split at he
  · rename_i t x hi ho
    split at he
    · rename_i e k n hel hn
      split at he
      · rename_i hn0
        subst hn0
        have hu : P.underlying t = some (.slice e) := by
          unfold elemT at hel
          split at hel
          · rename_i e' hu; rw [hu]; simp at hel; rw [hel]
          · cases hel
        have hhi : a.eval hi = .int k 0 := by have := ev_rel h hi; rw [hn] at this; exact this
        have key : ∀ (ad : Option Addr) (len cap : Nat), elOk P e = true → a.eval x = .slice ad len cap → (execOp a.eval o).run P w = .ok (.value (.slice (if cap = 0 then ad else ad.map (·.add 0)) 0 cap)) w := by
          intro ad len cap hok hx
          obtain ⟨hinf, hsz⟩ := elOk_parts hok
          have hb := bounds_run (P := P) (w := w) (isSl := true) (len := 0) (cap := cap) (low := none) (high := some (.int k 0)) (l := 0) (h := 0) (.inl ⟨rfl, rfl⟩) (.inr ⟨k, rfl⟩) (by omega) (by omega) (by omega) (by omega)
          have hb : (Instr.sliceBounds true len cap none (some (.int k 0)) none).run P w = .ok (0, 0, cap) w := by
            have e0 : (Instr.sliceBounds true len cap none (some (.int k 0)) none) = (Instr.sliceBounds true 0 cap none (some (.int k 0)) none) := rfl
            rw [e0]; exact hb
          unfold execOp
          simp only [ho, hx, hhi, Option.map_none, Option.map_some, Instr.sliceAt, Instr.slice, Sem.run_bind, run_underlying hu w, hb, Result.andThen_ok, size_run hinf w, Sem.run_pure]
          simp
        split at he
        · rename_i hx
          split at he
          · rename_i hok
            obtain rfl := Option.some.inj he
            have hv : a.eval x = .slice none 0 0 := by have := ev_rel h x; rw [hx] at this; exact this
            refine ⟨.slice none 0 0, G, w, .inl ?_, h.put o.dst (av := .nils) rfl⟩
            rw [key none 0 0 hok hv]
            rfl
          · cases he
        · rename_i ob ver hx
          split at he
          · rename_i ver' s xs hob
            split at he
            · rename_i hc
              obtain ⟨hver, hok⟩ := hc
              obtain rfl := Option.some.inj he
              subst hver
              have hv := ev_rel h x
              rw [hx] at hv
              obtain ⟨_, m2, ver2, s2, xs2, hob2, hmf2, _, hrv⟩ := hv
              have hob2 : lk ob σ.sto = some (.arr m2 ver2 s2 xs2) := hob2
              rw [hob] at hob2
              simp only [Option.some.injEq, Ob.arr.injEq] at hob2
              obtain ⟨rfl, rfl, rfl, e2⟩ := hob2
              have e3 := eq_of_heq e2
              subst e3
              have hrv := hrv rfl
              have hO := h.obj ob _ hob
              have hR := h.upd1 (G' := G) ob (.arr .uniq (ver + 1) s []) σ.dt (ob :: σ.dob) (Keeps.refl _ _) (fun _ _ _ _ => rfl) (fun _ _ _ _ _ _ _ => ⟨rfl, fun _ hs => hs⟩)
                (by rw [hob]; exact ⟨.uniq, ver + 1, [], rfl, rfl, by omega, fun e => (e rfl).elim, fun e => by omega⟩)
                ⟨hO.1, by
                  have hO2 := hO.2
                  revert hO2
                  cases G.M ob with
                  | none => intro _; exact ⟨rfl, rfl⟩
                  | some q =>
                    obtain ⟨b, cap⟩ := q
                    intro hO2
                    obtain ⟨a1, vs, ty, a2, a3, a4, a5, a6, a7, a8, a9⟩ := hO2
                    exact ⟨a1, vs, ty, a2, a3, by simp, a5, fun k e => (by cases e), fun i y hy => (by simp at hy), fun off hs => (by have := (a8 off hs).1; cases this), fun e => (by cases e)⟩⟩
                (fun p' ob' b' c' c3 e' hp' hb' hb3 => e' (h.inj p' ob ob' _ b' c' c3 hp' hob hb' hb3)) h.below h.bsz (fun _ _ hs => .inl hs) h.slt
              cases hM : G.M ob with
              | none =>
                rw [hM] at hrv
                obtain ⟨_, hv⟩ := hrv
                refine ⟨.slice none 0 0, G, w, .inl ?_, hR.put o.dst (av := .ref ob (ver + 1)) ?_⟩
                · rw [key none 0 0 hok hv]; rfl
                · exact refV_ref (n := 0) (xs := ([] : List s.D)) (s := s) (m := .uniq) trivial (by simp [lks, lk_ups]) rfl rfl (by simp [RefV, hM])
              | some q =>
                obtain ⟨b, cap⟩ := q
                rw [hM] at hrv
                simp only [RefV] at hrv
                refine ⟨.slice (some ⟨b, 0, none⟩) 0 cap, G, w, .inl ?_, hR.put o.dst (av := .ref ob (ver + 1)) ?_⟩
                · rw [key _ _ cap hok hrv]
                  congr 2
                  split <;> simp [addr_add]
                · exact refV_ref (n := 0) (xs := ([] : List s.D)) (s := s) (m := .uniq) trivial (by simp [lks, lk_ups]) rfl rfl (by simp [RefV, hM])
            · cases he
          · cases he
        · cases he
      · cases he
    · cases he
  · rename_i c ho
    split at he
    · rename_i hc
      split at he
      · rename_i t x ht hx
        split at he
        · rename_i e hel hn
          obtain rfl := Option.some.inj he
          have hu : P.underlying t = some (.slice e) := by
            unfold elemT at hel
            split at hel
            · rename_i e' hu; rw [hu]; simp at hel; rw [hel]
            · cases hel
          have hv : a.eval x = .slice none 0 0 := by have := ev_rel h x; rw [hn] at this; exact this
          exact ⟨.int .i64 0, G, w, .inl (cap_nil hc ho ht hx hu hv), h.put o.dst (av := .int .i64 0) rfl⟩
        · cases he
      · cases he
    · rename_i hc
      split at he
      · rename_i t t' x y ht hx
        split at he
        · rename_i k n hxe hye
          split at he
          · rename_i e kn hel hu'
            split at he
            · rename_i z hzz
              split at he
              · rename_i hcond
                obtain ⟨hok, hpos, hby, hsite⟩ := hcond
                obtain rfl := Option.some.inj he
                simp only [Bool.and_eq_true, decide_eq_true_eq] at hq
                have hu : P.underlying t = some (.slice e) := by
                  unfold elemT at hel
                  split at hel
                  · rename_i e' hu; rw [hu]; simp at hel; rw [hel]
                  · cases hel
                have hcc : c = { callee := .builtin .append, args := #[x, y], argTypes := #[t, t'] } := by
                  obtain ⟨c1, c2, c3⟩ := c
                  simp only at hc ht hx
                  subst hc
                  congr
                  · exact Array.ext' (by simpa using hx)
                  · exact Array.ext' (by simpa using ht)
                obtain ⟨zs, hzs, hzd⟩ := Option.bind_eq_some_iff.1 hzz
                exact op_zeros h (by rw [ho, hcc]) hu hu' hxe hye hzs hzd hok hpos hby hsite hq.1 hq.2
              · cases he
            · cases he
          · cases he
        · cases he
      · cases he
    · cases he
  · cases he

theorem stepO_sound (hP : ProgOK P) (hE : EnvOK P E) (hI : InlOK P inl) {site : Nat} {k : St → Prop} (h : Rel B w0 S0 G outs σ a w) (hs : stepO P E own inl site o σ k)
    (hk : ∀ v σ' G' w', Pres σ σ' → Rel B w0 S0 G' outs σ' (a.put o.dst v) w' → k σ' → K (a.put o.dst v) w') : WP P o a w K Q := by
  unfold stepO at hs
  split at hs
  · rename_i q hq
    obtain ⟨hc, hs⟩ := br_no hs
    obtain ⟨u, G', w', hd, hR⟩ := op_spec h hq hc
    refine .inl ?_
    rcases hd with hd | ⟨hd, rfl⟩
    · unfold Oper.wp; rw [hd]; exact hk u _ G' w' (Pres.eff σ o.dst q.2.1 q.2.2) hR hs
    · unfold Oper.wp; rw [hd]; exact hk Go.undef _ G' w' (Pres.eff σ o.dst q.2.1 q.2.2) hR hs
  obtain ⟨l, hl⟩ := frzFor_eq E σ o
  rw [hl] at hs
  obtain ⟨G1, h1⟩ := Rel.frz l h
  have hpr := Pres.frz l σ
  revert h1 hpr hs
  generalize Pi.frz l σ = σ1
  intro hs h1 hpr
  simp only at hs
  split at hs
  · rename_i e he
    obtain ⟨hc, hs⟩ := br_no hs
    obtain ⟨hpre, hs⟩ := withPre_iff.1 hs
    exact opF_sound hP hE h1 he hc hpre fun v w' G' hR hroom => hk v _ G' w' (hpr.trans (Pres.eff σ1 o.dst e.val e.upd)) hR (br_true hroom hs)
  · rename_i hnone
    split at hs
    · rename_i c ho
      split at hs
      · rename_i fv hcal
        split at hs
        · rename_i f cap hf
          obtain ⟨⟨fn, hfn, hb⟩, hI⟩ := hI B w0 S0 outs site f _ σ1 _ hs
          have hv := ev_rel h1 fv
          rw [hf] at hv
          obtain ⟨caps, hv, hcaps⟩ := hv
          have hr := enter_run (w := w) hP ho hcal hv hfn hb
          refine .inl (wp_enter hr (hI G1 a w _ _ h1 ((evs_rel h1 c.args.toList).append (caps_vr hcaps)) fun av v σ' G' w' hkk hp hR hV => ?_))
          exact hk v _ G' w' (hpr.trans (hp.trans (Pres.put σ' o.dst av))) (hR.put o.dst hV) hkk
        · exact hs.elim
      · exact hs.elim
    · split at hs
      · rename_i q hq
        obtain ⟨u, G', hd, hR⟩ := op_sliceArr h1 hq
        refine .inl ?_
        rcases hd with hd | ⟨hd, rfl⟩
        · unfold Oper.wp; rw [hd]; exact hk u _ G' w (hpr.trans (Pres.eff σ1 o.dst q.1 [q.2])) hR hs
        · unfold Oper.wp; rw [hd]; exact hk Go.undef _ G' w (hpr.trans (Pres.eff σ1 o.dst q.1 [q.2])) hR hs
      · exact hs.elim

/-! ### guards -/
theorem get_lt {tm : List AV} {d : Nat} {v : AV} (h : get tm d = v) (hv : v ≠ .undef) : d < tm.length := by
  rcases Nat.lt_or_ge d tm.length with h1 | h1
  · exact h1
  · exfalso
    apply hv
    rw [← h]
    simp [get, List.getD_eq_getElem?_getD, List.getElem?_eq_none h1]

theorem set_same {tm : List AV} {d : Nat} {v : AV} (h : get tm d = v) : tm.set d v = tm := by
  apply List.ext_getElem?
  intro i
  rw [List.getElem?_set]
  split
  · rename_i e
    subst e
    split
    · rename_i hlt
      rw [← h]
      exact (getD_of_lt hlt _).symm
    · rename_i hlt
      rw [List.getElem?_eq_none (Nat.le_of_not_lt hlt)]
  · rfl

theorem guard_bool (h : Rel B w0 S0 G outs σ a w) {ops : Array Oper} {j d : Nat} (hj : (ops[j]?).bind (·.dst) = some d) {b : Bool} (hb : get σ.tm d = .bool b) : yielded ops a.tmps j = some b := by
  have hlt := get_lt hb (by simp)
  have hv := h.tm d
  rw [hb] at hv
  have hv : a.tmps.getD d Go.undef = .bool b := hv
  have hlt2 : d < a.tmps.size := Nat.lt_of_lt_of_le hlt h.tml
  have : a.tmps[d]? = some (.bool b) := by
    rw [Array.getElem?_eq_getElem hlt2]
    simpa [Array.getD, hlt2] using hv
  simp [yielded, hj, this]

theorem guard_skip (h : Rel B w0 S0 G outs σ a w) {ops : Array Oper} {j d : Nat} (hj : (ops[j]?).bind (·.dst) = some d) (hb : get σ.tm d = .skip) : yielded ops a.tmps j = none := by
  have hlt := get_lt hb (by simp)
  have hv := h.tm d
  rw [hb] at hv
  have hv : a.tmps.getD d Go.undef = Go.undef := hv
  have hlt2 : d < a.tmps.size := Nat.lt_of_lt_of_le hlt h.tml
  have : a.tmps[d]? = some Go.undef := by
    rw [Array.getElem?_eq_getElem hlt2]
    simpa [Array.getD, hlt2] using hv
  simp [yielded, hj, this, Go.undef]

theorem put_defers (a : Act) (dst : Option Tmp) (v : Value) : (a.put dst v).defers = a.defers := by cases dst <;> rfl

theorem goOps_sound (hP : ProgOK P) (hE : EnvOK P E) (hI : InlOK P inl) {path rid : Nat} {ops : Array Oper} {k : St → Prop} (ds : List Deferred) :
    ∀ (r : List Oper) (i : Nat) {G : Gh} {σ : St} {a : Act} {w : World}, r = ops.toList.drop i → Rel B w0 S0 G outs σ a w → a.defers = ds → goOps P E own inl path rid ops r i σ k →
      (∀ σ' G' a' w', Pres σ σ' → Rel B w0 S0 G' outs σ' a' w' → a'.defers = ds → k σ' → Q .normal a' w') → wpOps P ops Q (List.range' i r.length) a w
  | [], i, G, σ, a, w, hr, h, hd, hs, hk => hk σ G a w (Pres.refl σ) h hd hs
  | o :: r, i, G, σ, a, w, hr, h, hd, hs, hk => by
    have hi : ops[i]? = some o := by
      have : (ops.toList.drop i)[0]? = some o := by rw [← hr]; rfl
      simpa using this
    have hr' : r = ops.toList.drop (i + 1) := by
      have : (ops.toList.drop i).drop 1 = r := by rw [← hr]; rfl
      rw [← this, List.drop_drop]
    have step : ∀ {σ1 : St}, Rel B w0 S0 G outs σ1 a w → Pres σ σ1 → stepO P E own inl (siteOf path rid i) o σ1 (fun σ' => goOps P E own inl path rid ops r (i + 1) σ' k) → WP P o a w (wpOps P ops Q (List.range' (i + 1) r.length)) Q := by
      intro σ1 h1 hp1 hs1
      refine stepO_sound hP hE hI h1 hs1 fun v σ' G' w' hp hR hk' => ?_
      exact goOps_sound hP hE hI ds r (i + 1) hr' hR (by rw [put_defers]; exact hd) hk' fun σ'' G'' a'' w'' hp' => hk σ'' G'' a'' w'' ((hp1.trans hp).trans hp')
    have skip : ∀ {σ1 : St}, Rel B w0 S0 G outs σ1 a w → Pres σ σ1 → goOps P E own inl path rid ops r (i + 1) (appEff o.dst σ1 .skip []) k → wpOps P ops Q (List.range' (i + 1) r.length) (a.put o.dst undef) w := by
      intro σ1 h1 hp1 hs1
      exact goOps_sound hP hE hI ds r (i + 1) hr' (h1.put o.dst (av := .skip) rfl) (by rw [put_defers]; exact hd) hs1 fun σ'' G'' a'' w'' hp' => hk σ'' G'' a'' w'' ((hp1.trans (Pres.put σ1 o.dst .skip)).trans hp')
    rw [List.length_cons, List.range'_succ]
    unfold wpOps
    simp only [hi]
    unfold goOps at hs
    cases hg : o.guard with
    | none =>
      rw [hg] at hs
      simp only [Region.wanted, hg, if_true]
      exact step h (Pres.refl σ) hs
    | some gw =>
      obtain ⟨j, want⟩ := gw
      rw [hg] at hs
      simp only at hs
      split at hs
      · exact hs.elim
      · rename_i d hj
        split at hs
        · rename_i b hb
          have hy := guard_bool h hj hb
          have hset : ∀ c, b = c → ({ σ with tm := σ.tm.set d (.bool c) } : St) = σ := fun c e => by rw [set_same (by rw [hb, e])]
          have hwant : Region.wanted o (yielded ops a.tmps) = (b == want) := by simp [Region.wanted, hg, hy]
          rw [hwant]
          cases want with
          | true =>
            simp only at hs
            cases b with
            | true => have hs := br_true rfl hs; rw [hset true rfl] at hs; simp only [beq_self_eq_true, if_true]; exact step h (Pres.refl σ) hs
            | false => have hs := br_false rfl hs; rw [hset false rfl] at hs; simp only [show (false == true) = false from rfl, Bool.false_eq_true, if_false]; exact skip h (Pres.refl σ) hs
          | false =>
            simp only at hs
            cases b with
            | true => have hs := br_true rfl hs; rw [hset true rfl] at hs; simp only [show (true == false) = false from rfl, Bool.false_eq_true, if_false]; exact skip h (Pres.refl σ) hs
            | false => have hs := br_false rfl hs; rw [hset false rfl] at hs; simp only [beq_self_eq_true, if_true]; exact step h (Pres.refl σ) hs
        · rename_i hb
          have hy := guard_skip h hj hb
          have hwant : Region.wanted o (yielded ops a.tmps) = false := by simp [Region.wanted, hg, hy]
          rw [hwant]
          simp only [Bool.false_eq_true, if_false]
          exact skip h (Pres.refl σ) hs
        · exact hs.elim

end
end Go.Pi
end

section
namespace Go.Pi
open Go.RowKit
set_option linter.unusedSimpArgs false
set_option linter.unusedVariables false

section
variable {P : Program} {B : Nat} {w0 : World} {S0 : Cells} {G G' : Gh} {outs : List (Array Value)} {σ : St} {a : Act} {w w' : World} {o : Oper} {look look' : Look}

/-- What a value that is closed may name is as it was. -/
structure Over (G : Gh) (look : Look) (G' : Gh) (look' : Look) (l q : List Nat) : Prop where
  S : G'.S = G.S
  kept : ∀ o, q.contains o = true → look' o = look o ∧ G'.M o = G.M o
  own : ∀ o ob, l.contains o = true → look o = some ob → ob.still → (∃ ob', look' o = some ob' ∧ ob'.still) ∧ G'.M o = G.M o

theorem Over.ptr {l q : List Nat} (H : Over G look G' look' l q) {o off : Nat} {v : Value} (hl : l.contains o = true) (h : PtrR G look o off v) : PtrR G' look' o off v := by
  obtain ⟨⟨ob, ho, hs⟩, b, c, hm, e⟩ := h
  obtain ⟨h1, h2⟩ := H.own o ob hl ho hs
  exact ⟨h1, b, c, h2.trans hm, e⟩

theorem Over.vr0 {l q : List Nat} (H : Over G look G' look' l q) : ∀ {av : AV} {v : Value}, closed0 l q av = true → VR0 G w look av v → VR0 G' w look' av v := by
  intro av v hc h
  cases av with
  | undef => trivial
  | skip => exact h
  | int k n => exact h
  | bool b => exact h
  | str s => exact h
  | nils => exact h
  | sl ex s xs => exact ⟨by rw [H.S]; exact h.1, h.2⟩
  | ref o ver =>
    obtain ⟨h1, h2⟩ := H.kept o hc
    obtain ⟨hl, m, ver', s, xs, ho, hr⟩ := h
    exact ⟨hl, m, ver', s, xs, h1.trans ho, by rw [h2]; exact hr⟩
  | ptr o off => exact H.ptr hc h
  | ptre o ver i off =>
    obtain ⟨h1, h2⟩ := H.kept o hc
    obtain ⟨hl, m, ver', s, xs, ho, hr⟩ := h
    exact ⟨hl, m, ver', s, xs, h1.trans ho, by rw [h2]; exact hr⟩
  | pel s xs i off =>
    obtain ⟨hi, b, o0, he, e⟩ := h
    exact ⟨hi, b, o0, by rw [H.S]; exact he, e⟩
  | pix o base s m i off => exact ⟨h.1, H.ptr hc h.2⟩
  | cst u => exact h
  | fn f cap =>
    obtain ⟨vs, e, ha⟩ := h
    refine ⟨vs, e, ?_⟩
    simp only [closed0, List.all_eq_true] at hc
    have : ∀ (cap : List Nat) (vs : List Value), (∀ x ∈ cap, l.contains x = true) → All2 (fun o v => PtrR G look o 0 v) cap vs → All2 (fun o v => PtrR G' look' o 0 v) cap vs := by
      intro cap
      induction cap with
      | nil => intro vs _ h; cases vs with
        | nil => trivial
        | cons _ _ => exact h.elim
      | cons c r ih => intro vs hx h; cases vs with
        | nil => exact h.elim
        | cons u us => exact ⟨H.ptr (hx c (by simp)) h.1, ih us (fun x hxx => hx x (by simp [hxx])) h.2⟩
    exact this cap vs.toList hc ha
  | agg _ => exact h.elim
  | tup _ => exact h.elim

theorem Over.crs {l q : List Nat} (H : Over G look G' look' l q) : ∀ {cs : List AV} {vs : List Value}, cs.all (closed0 l q) = true → All2 (CR G w look) cs vs → All2 (CR G' w look') cs vs
  | [], [], _, _ => trivial
  | [], _ :: _, _, h => h.elim
  | _ :: _, [], _, h => h.elim
  | c :: r, v :: vs, hc, h => by
    simp only [List.all_cons, Bool.and_eq_true] at hc
    exact ⟨⟨H.vr0 hc.1 h.1.1, h.1.2⟩, H.crs hc.2 h.2⟩

theorem Over.vr1 {l q : List Nat} (H : Over G look G' look' l q) {av : AV} {v : Value} (hc : closed1 l q av = true) (h : VR1 G w look av v) : VR1 G' w look' av v := by
  cases av <;> first
    | (obtain ⟨vs, e, ha⟩ := h; exact ⟨vs, e, H.crs hc ha⟩)
    | (simp only [VR1] at h ⊢; exact H.vr0 hc h)

theorem Over.vr {l q : List Nat} (H : Over G look G' look' l q) {av : AV} {v : Value} (hc : closed l q av = true) (h : VR G w look av v) : VR G' w look' av v := by
  cases av <;> try (simp only [VR] at h ⊢; exact H.vr1 hc h)
  rename_i as
  obtain ⟨vs, e, ha⟩ := h
  refine ⟨vs, e, ?_⟩
  simp only [closed, List.all_eq_true] at hc
  have : ∀ (as : List AV) (vs : List Value), (∀ x ∈ as, closed1 l q x = true) → All2 (VR1 G w look) as vs → All2 (VR1 G' w look') as vs := by
    intro as
    induction as with
    | nil => intro vs _ h; cases vs with
      | nil => trivial
      | cons _ _ => exact h.elim
    | cons c r ih => intro vs hx h; cases vs with
      | nil => exact h.elim
      | cons u us => exact ⟨H.vr1 (hx c (by simp)) h.1, ih us (fun x hxx => hx x (by simp [hxx])) h.2⟩
  exact this as vs.toList hc ha

/-! ### parts of the state at a loop's head -/
theorem extC_rel (hobj : ∀ o ob, look o = some ob → ObR B G w look o ob) {l : List Nat}
    (href : ∀ o ver v, l.contains o = true → isRef look o (.ref o ver) = true → VR0 G w look (.ref o ver) v → VR0 G' w look' (.ref o 0) v)
    (hnil : ∀ o, l.contains o = true → look o = none → ∀ v, v = Value.slice none 0 0 → VR0 G' w look' (.ref o 0) v) (hS : G'.S = G.S) {z : Sch} :
    ∀ {ts : List CTpl} {y0 : z.D} {cs : List AV} {vs : List Value} {y : (schC ts z).D}, All2 (CR G w look) cs vs → extC look l y0 ts cs = some y → All2 (CR G' w look') (mkC ts y).1 vs ∧ (mkC ts y).2 = y0
  | [], y0, cs, vs, y, h, e => by
    cases cs with
    | nil => simp [extC] at e; subst e; cases vs with
      | nil => exact ⟨trivial, rfl⟩
      | cons _ _ => exact h.elim
    | cons _ _ => simp [extC] at e
  | .data s :: r, y0, cs, vs, y, h, e => by
    cases cs with
    | nil => simp [extC] at e
    | cons c cs => cases vs with
      | nil => exact h.elim
      | cons v vs =>
        simp only [extC] at e
        split at e
        · rename_i x y' h1 h2
          simp at e; subst e
          obtain ⟨h3, h4⟩ := extC_rel hobj href hnil hS h.2 h2
          refine ⟨⟨?_, h3⟩, h4⟩
          have hd : TyV G.S w (false, s) x v := decTy_rel hobj h.1.vr h1
          have hd : DR G.S w s x [v] := hd
          have he : All2 (CR G' w look') (s.enc x) [v] := enc_rel (by rw [hS]; exact hd)
          show CR G' w look' ((s.enc x).headD .undef) v
          cases hh : s.enc x with
          | nil => rw [hh] at he; exact he.elim
          | cons c' r' => rw [hh] at he; exact he.1
        · simp at e
  | .ref o :: r, y0, cs, vs, y, h, e => by
    cases cs with
    | nil => simp [extC] at e
    | cons c cs => cases vs with
      | nil => exact h.elim
      | cons v vs =>
        simp only [extC] at e
        split at e
        · rename_i hc
          simp only [Bool.and_eq_true] at hc
          obtain ⟨h3, h4⟩ := extC_rel hobj href hnil hS h.2 e
          refine ⟨⟨⟨?_, h.1.2⟩, h3⟩, h4⟩
          obtain ⟨hr, hl⟩ := hc
          cases c <;> simp only [isRef] at hr <;> try (simp at hr; done)
          case ref p ver =>
            simp only [Bool.and_eq_true, beq_iff_eq] at hr
            obtain ⟨rfl, hr⟩ := hr
            exact href p ver v hl (by simp [isRef, hr]) h.1.1
          case nils => exact hnil o hl (by simpa using hr) v h.1.1
        · simp at e

/-- The block of each listed object. -/
def mapM (σ : St) (M : Nat → Option (Nat × Nat)) : List (Nat × OTpl) → Nat → Option (Nat × Nat)
  | [], _ => none
  | e :: r, o => if e.1 = o then (match lk (actual1 σ e) σ.sto with
    | none => none
    | some _ => M (actual1 σ e)) else mapM σ M r o

theorem nodup_inj {α : Type} {f : α → Nat} : ∀ {l : List α} {x y : α}, nodupN (l.map f) = true → x ∈ l → y ∈ l → f x = f y → x = y
  | [], x, y, _, h, _, _ => by simp at h
  | a :: r, x, y, hn, hx, hy, e => by
    simp only [List.map_cons, nodupN, Bool.and_eq_true, Bool.not_eq_true', List.contains_eq_mem, decide_eq_false_iff_not] at hn
    rcases List.mem_cons.1 hx with h1 | h1
    · rcases List.mem_cons.1 hy with h2 | h2
      · rw [h1, h2]
      · subst h1; exact (hn.1 (List.mem_map.2 ⟨y, h2, e.symm⟩)).elim
    · rcases List.mem_cons.1 hy with h2 | h2
      · subst h2; exact (hn.1 (List.mem_map.2 ⟨x, h1, e⟩)).elim
      · exact nodup_inj hn.2 h1 h2 e

theorem mapM_mem {M : Nat → Option (Nat × Nat)} : ∀ {obs : List (Nat × OTpl)} {e : Nat × OTpl}, nodupN (obs.map (·.1)) = true → e ∈ obs → mapM σ M obs e.1 = (match lk (actual1 σ e) σ.sto with
    | none => none
    | some _ => M (actual1 σ e))
  | [], e, _, h => by simp at h
  | a :: r, e, hn, h => by
    have hn0 := hn
    simp only [List.map_cons, nodupN, Bool.and_eq_true, Bool.not_eq_true', List.contains_eq_mem, decide_eq_false_iff_not] at hn
    rcases List.mem_cons.1 h with rfl | h
    · simp [mapM]
    · have hne : ¬ (a.1 = e.1) := fun e' => hn.1 (List.mem_map.2 ⟨e, h, e'.symm⟩)
      simp only [mapM, if_neg hne]
      exact mapM_mem hn.2 h

theorem mapM_some {M : Nat → Option (Nat × Nat)} : ∀ {obs : List (Nat × OTpl)} {o : Nat} {q : Nat × Nat}, mapM σ M obs o = some q → ∃ e ∈ obs, e.1 = o
  | [], o, q, h => by simp [mapM] at h
  | a :: r, o, q, h => by
    simp only [mapM] at h
    split at h
    · rename_i e
      exact ⟨a, .head _, e⟩
    · obtain ⟨e, he, h1⟩ := mapM_some h
      exact ⟨e, .tail _ he, h1⟩

theorem extC_snd {l : List Nat} {z : Sch} : ∀ {ts : List CTpl} {y0 : z.D} {cs : List AV} {y : (schC ts z).D}, extC look l y0 ts cs = some y → (mkC ts y).2 = y0
  | [], y0, cs, y, e => by cases cs with
    | nil => simp [extC] at e; subst e; rfl
    | cons _ _ => simp [extC] at e
  | .data s :: r, y0, cs, y, e => by cases cs with
    | nil => simp [extC] at e
    | cons c cs =>
      simp only [extC] at e
      split at e
      · rename_i x y' h1 h2
        simp at e; subst e
        exact extC_snd (ts := r) h2
      · simp at e
  | .ref o :: r, y0, cs, y, e => by cases cs with
    | nil => simp [extC] at e
    | cons c cs =>
      simp only [extC] at e
      split at e
      · exact extC_snd (ts := r) e
      · simp at e

/-- What an object at the head is. -/
def ObSpec (l : List Nat) (σ0 σ : St) (e : Nat × OTpl) (ob : Ob) : Prop := match e.2 with
  | .keep => lk e.1 σ0.sto = some ob
  | .arr m s => ∃ xs, ob = .arr m 0 s xs ∧ ((∃ ver, lk e.1 σ.sto = some (.arr m ver s xs)) ∨ (lk e.1 σ.sto = none ∧ xs = [] ∧ m.fix = none ∧ 0 < s.size))
  | .cells ts => ∃ (vs : List AV) (z : Sch) (y0 : z.D) (y : (schC ts z).D), lk e.1 σ.sto = some (.cells false vs) ∧ extC (lks σ) l y0 ts vs = some y ∧ ob = .cells false (mkC ts y).1
  | .via t ts => ∃ (p : Nat) (vs : List AV) (z : Sch) (y0 : z.D) (y : (schC ts z).D), get σ.tm t = .ptr p 0 ∧ lk p σ.sto = some (.cells false vs) ∧ extC (lks σ) l y0 ts vs = some y ∧ ob = .cells false (mkC ts y).1

theorem mkO_mem {l : List Nat} {σ0 : St} :
    ∀ {obs : List (Nat × OTpl)} {y : (schO obs).D}, nodupN (obs.map (·.1)) = true → extO l σ obs = some y → (∀ o, (o, OTpl.keep) ∈ obs → (lk o σ0.sto).isSome = true) →
      (∀ e ∈ obs, ∃ ob, lk e.1 (mkO σ0 obs y) = some ob ∧ ObSpec l σ0 σ e ob) ∧ ∀ o ob, lk o (mkO σ0 obs y) = some ob → ∃ e ∈ obs, e.1 = o
  | [], y, _, _, _ => ⟨fun e h => by simp at h, fun o ob h => by simp [mkO, lk] at h⟩
  | (o, tpl) :: r, y, hn, he, hk => by
    simp only [List.map_cons, nodupN, Bool.and_eq_true, Bool.not_eq_true', List.contains_eq_mem, decide_eq_false_iff_not] at hn
    have hk' : ∀ o, (o, OTpl.keep) ∈ r → (lk o σ0.sto).isSome = true := fun o h => hk o (.tail _ h)
    -- the head, then the rest
    have join : ∀ (ob : Ob) (y' : (schO r).D), mkO σ0 ((o, tpl) :: r) y = (o, ob) :: mkO σ0 r y' → extO l σ r = some y' → ObSpec l σ0 σ (o, tpl) ob →
        (∀ e ∈ (o, tpl) :: r, ∃ ob, lk e.1 (mkO σ0 ((o, tpl) :: r) y) = some ob ∧ ObSpec l σ0 σ e ob) ∧ ∀ o' ob, lk o' (mkO σ0 ((o, tpl) :: r) y) = some ob → ∃ e ∈ (o, tpl) :: r, e.1 = o' := by
      intro ob y' hm hy' hsp
      obtain ⟨h1, h2⟩ := mkO_mem hn.2 hy' hk'
      rw [hm]
      refine ⟨fun e h => ?_, fun o' ob' h => ?_⟩
      · rcases List.mem_cons.1 h with rfl | h
        · exact ⟨ob, by simp [lk], hsp⟩
        · obtain ⟨ob', h3, h4⟩ := h1 e h
          have hne : ¬ (o = e.1) := fun e' => hn.1 (List.mem_map.2 ⟨e, h, e'.symm⟩)
          exact ⟨ob', by simp [lk, hne, h3], h4⟩
      · by_cases e' : o = o'
        · exact ⟨(o, tpl), .head _, e'⟩
        · simp only [lk, if_neg e'] at h
          obtain ⟨e, he, h3⟩ := h2 o' ob' h
          exact ⟨e, .tail _ he, h3⟩
    cases tpl with
    | keep =>
      obtain ⟨ob, hob⟩ := Option.isSome_iff_exists.1 (hk o (.head _))
      exact join ob y (by simp [mkO, hob]) he hob
    | arr m s =>
      simp only [extO] at he
      split at he
      · rename_i m' ver s' xs hlk
        split at he
        · rename_i hs
          subst hs
          split at he
          · rename_i hm
            subst hm
            split at he
            · rename_i y' hy'
              simp at he; subst he
              exact join _ y' rfl hy' ⟨xs, rfl, .inl ⟨ver, hlk⟩⟩
            · simp at he
          · simp at he
        · simp at he
      · simp at he
      · rename_i hlk
        split at he
        · simp at he
        · rename_i hcond
          simp only [not_or, Decidable.not_not] at hcond
          split at he
          · rename_i y' hy'
            simp at he; subst he
            exact join _ y' rfl hy' ⟨[], rfl, .inr ⟨hlk, rfl, hcond.1, by omega⟩⟩
          · simp at he
    | cells cs =>
      simp only [extO] at he
      split at he
      · rename_i vs hlk
        split at he
        · rename_i y' hy'
          have h2 := extC_snd he
          exact join _ y' (by simp only [mkO]; rw [h2]) hy' ⟨vs, _, _, _, hlk, he, rfl⟩
        · simp at he
      · simp at he
    | via t cs =>
      simp only [extO] at he
      split at he
      · rename_i p hp
        split at he
        · rename_i vs hlk
          split at he
          · rename_i y' hy'
            have h2 := extC_snd he
            exact join _ y' (by simp only [mkO]; rw [h2]) hy' ⟨p, vs, _, _, _, hp, hlk, he, rfl⟩
          · simp at he
        · simp at he
      · simp at he

/-- The temporaries. -/
theorem mkT_rel {l : List Nat} {σ0 : St} {X : Nat → AV → Prop} {obs : List (Nat × OTpl)} :
    ∀ {tms : List (Nat × Tpl)} {v : (schT tms obs).D}, extT l σ tms obs = some v →
      (∀ t ag s x, (t, Tpl.data ag s) ∈ tms → decTy (lks σ) (ag, s) (get σ.tm t) = some x → X t (encTy (ag, s) x)) →
      (∀ t, (t, Tpl.keep) ∈ tms → X t (get σ0.tm t)) →
      (∀ t o, (t, Tpl.ref o) ∈ tms → isRef (lks σ) o (get σ.tm t) = true → l.contains o = true → X t (.ref o 0)) →
      (∀ t o, (t, Tpl.ptr o) ∈ tms → viaOf t o obs = true → X t (.ptr o 0)) →
      ∃ y, extO l σ obs = some y ∧ ∀ tm, (∀ t, X t (get tm t)) → (∀ t, X t (get (mkT σ0 tms obs v tm).1 t)) ∧ (mkT σ0 tms obs v tm).2 = mkO σ0 obs y ∧ (mkT σ0 tms obs v tm).1.length = tm.length
  | [], v, he, _, _, _, _ => ⟨v, he, fun tm h => ⟨h, rfl, rfl⟩⟩
  | (t, tpl) :: r, v, he, h1, h2, h3, h4 => by
    have set : ∀ (tm : List AV) (av : AV), X t av → (∀ t', X t' (get tm t')) → ∀ t', X t' (get (tm.set t av) t') := fun tm av hx h t' => by
      rw [get_set]
      split
      · rename_i e; rw [e.1]; exact hx
      · exact h t'
    cases tpl with
    | data ag s =>
      simp only [extT] at he
      split at he
      · rename_i x y' hx hy'
        simp at he; subst he
        obtain ⟨y, hy, hall⟩ := mkT_rel hy' (fun t ag s x hm => h1 t ag s x (.tail _ hm)) (fun t hm => h2 t (.tail _ hm)) (fun t o hm => h3 t o (.tail _ hm)) (fun t o hm => h4 t o (.tail _ hm))
        refine ⟨y, hy, fun tm h => ?_⟩
        obtain ⟨a1, a2, a3⟩ := hall (tm.set t (encTy (ag, s) x)) (set tm _ (h1 t ag s x (.head _) hx) h)
        exact ⟨a1, a2, by rw [← List.length_set (as := tm) (i := t) (a := encTy (ag, s) x)]; exact a3⟩
      · simp at he
    | keep =>
      obtain ⟨y, hy, hall⟩ := mkT_rel (tms := r) he (fun t ag s x hm => h1 t ag s x (.tail _ hm)) (fun t hm => h2 t (.tail _ hm)) (fun t o hm => h3 t o (.tail _ hm)) (fun t o hm => h4 t o (.tail _ hm))
      refine ⟨y, hy, fun tm h => ?_⟩
      obtain ⟨a1, a2, a3⟩ := hall (tm.set t (get σ0.tm t)) (set tm _ (h2 t (.head _)) h)
      exact ⟨a1, a2, by rw [← List.length_set (as := tm) (i := t) (a := get σ0.tm t)]; exact a3⟩
    | ref o =>
      simp only [extT] at he
      split at he
      · rename_i hc
        simp only [Bool.and_eq_true] at hc
        obtain ⟨y, hy, hall⟩ := mkT_rel (tms := r) he (fun t ag s x hm => h1 t ag s x (.tail _ hm)) (fun t hm => h2 t (.tail _ hm)) (fun t o hm => h3 t o (.tail _ hm)) (fun t o hm => h4 t o (.tail _ hm))
        refine ⟨y, hy, fun tm h => ?_⟩
        obtain ⟨a1, a2, a3⟩ := hall (tm.set t (.ref o 0)) (set tm _ (h3 t o (.head _) hc.1 hc.2) h)
        exact ⟨a1, a2, by rw [← List.length_set (as := tm) (i := t) (a := .ref o 0)]; exact a3⟩
      · simp at he
    | ptr o =>
      simp only [extT] at he
      split at he
      · rename_i hc
        obtain ⟨y, hy, hall⟩ := mkT_rel (tms := r) he (fun t ag s x hm => h1 t ag s x (.tail _ hm)) (fun t hm => h2 t (.tail _ hm)) (fun t o hm => h3 t o (.tail _ hm)) (fun t o hm => h4 t o (.tail _ hm))
        refine ⟨y, hy, fun tm h => ?_⟩
        obtain ⟨a1, a2, a3⟩ := hall (tm.set t (.ptr o 0)) (set tm _ (h4 t o (.head _) hc) h)
        exact ⟨a1, a2, by rw [← List.length_set (as := tm) (i := t) (a := .ptr o 0)]; exact a3⟩
      · simp at he

theorem viaOf_mem {t o : Nat} : ∀ {obs : List (Nat × OTpl)}, viaOf t o obs = true → ∃ cs, (o, OTpl.via t cs) ∈ obs
  | [], h => by simp [viaOf] at h
  | (p, tpl) :: r, h => by
    have rest : viaOf t o r = true → ∃ cs, (o, OTpl.via t cs) ∈ (p, tpl) :: r := fun h => by
      obtain ⟨cs, hm⟩ := viaOf_mem h
      exact ⟨cs, .tail _ hm⟩
    cases tpl with
    | via u cs =>
      simp only [viaOf, Bool.or_eq_true, Bool.and_eq_true, beq_iff_eq] at h
      rcases h with ⟨rfl, rfl⟩ | h
      · exact ⟨cs, .head _⟩
      · exact rest h
    | keep => exact rest h
    | arr m s => exact rest h
    | cells l => exact rest h

theorem keptO_mem {o : Nat} : ∀ {obs : List (Nat × OTpl)}, (keptO obs).contains o = true → (o, OTpl.keep) ∈ obs
  | [], h => by simp [keptO] at h
  | (p, tpl) :: r, h => by
    cases tpl with
    | keep =>
      simp only [keptO, List.contains_cons, Bool.or_eq_true, beq_iff_eq] at h
      rcases h with rfl | h
      · exact .head _
      · exact .tail _ (keptO_mem h)
    | via u cs => exact .tail _ (keptO_mem h)
    | arr m s => exact .tail _ (keptO_mem h)
    | cells l => exact .tail _ (keptO_mem h)

theorem ownO_mem {o : Nat} : ∀ {obs : List (Nat × OTpl)}, (ownO obs).contains o = true → ∃ tpl, (o, tpl) ∈ obs ∧ ∀ t cs, tpl ≠ .via t cs
  | [], h => by simp [ownO] at h
  | (p, tpl) :: r, h => by
    have rest : (ownO r).contains o = true → ∃ tpl', (o, tpl') ∈ (p, tpl) :: r ∧ ∀ t cs, tpl' ≠ .via t cs := fun h => by
      obtain ⟨tpl', hm, hn⟩ := ownO_mem h
      exact ⟨tpl', .tail _ hm, hn⟩
    cases tpl with
    | via u cs => exact rest h
    | _ =>
      simp only [ownO, List.contains_cons, Bool.or_eq_true, beq_iff_eq] at h
      rcases h with rfl | h
      · exact ⟨_, .head _, fun t cs e => by simp at e⟩
      · exact rest h

theorem actual1_own {o : Nat} {tpl : OTpl} (h : ∀ t cs, tpl ≠ .via t cs) : actual1 σ (o, tpl) = o := by
  cases tpl <;> first | rfl | exact absurd rfl (h _ _)

end
end Go.Pi
end

section
namespace Go.Pi
open Go.RowKit
set_option linter.unusedSimpArgs false
set_option linter.unusedVariables false

section
variable {P : Program} {B : Nat} {w0 : World} {S0 : Cells} {G G' : Gh} {outs : List (Array Value)} {σ : St} {a : Act} {w w' : World} {o : Oper} {look look' : Look}

theorem isRef_ref {o p ver : Nat} (h : isRef look o (.ref p ver) = true) : p = o ∧ ∃ m s xs, look o = some (.arr m ver s xs) := by
  simp only [isRef, Bool.and_eq_true, beq_iff_eq] at h
  obtain ⟨rfl, h⟩ := h
  refine ⟨rfl, ?_⟩
  split at h
  · rename_i m ver' s xs hl
    simp at h
    subst h
    exact ⟨m, s, xs, hl⟩
  · simp at h

theorem ext_rel {A : LAnn} {σ0 : St} {v : A.S.D} (h : Rel B w0 S0 G outs σ a w) (hok : A.okAt σ0 = true) (hkT : ∀ t, (t, Tpl.keep) ∈ A.tms → get σ.tm t = get σ0.tm t ∨ get σ0.tm t = .undef)
    (hkO : ∀ o, (o, OTpl.keep) ∈ A.obs → ∃ ob, lk o σ0.sto = some ob ∧ lk o σ.sto = some ob) (hout : σ.outs = σ0.outs) (hlen : σ.tm.length = σ0.tm.length) (he : A.ext σ = some v) : ∃ G', Rel B w0 S0 G' outs (A.mk' σ0 v) a w := by
  unfold LAnn.ext at he
  split at he
  · rename_i hact
    unfold LAnn.okAt at hok
    simp only [Bool.and_eq_true] at hok
    obtain ⟨⟨⟨⟨hids, hokT⟩, hokO⟩, hokouts⟩, _⟩ := hok
    have hids : nodupN (A.obs.map (·.1)) = true := hids
    -- the objects' part
    obtain ⟨y, hy, hsh⟩ := mkT_rel (σ := σ) (σ0 := σ0) (l := ownO A.obs) (X := fun _ _ => True) he (fun _ _ _ _ _ _ => trivial) (fun _ _ => trivial) (fun _ _ _ _ _ => trivial) (fun _ _ _ _ => trivial)
    have hM : ∀ e ∈ A.obs, mapM σ G.M A.obs e.1 = (match lk (actual1 σ e) σ.sto with
      | none => none
      | some _ => G.M (actual1 σ e)) := fun e hm => mapM_mem hids hm
    have hkeep0 : ∀ o, (o, OTpl.keep) ∈ A.obs → (lk o σ0.sto).isSome = true := fun o hm => by obtain ⟨ob, h1, _⟩ := hkO o hm; simp [h1]
    obtain ⟨hmem1, hmem2⟩ := mkO_mem (σ := σ) (σ0 := σ0) (l := ownO A.obs) hids hy hkeep0
    -- what is closed is as it was
    have hover : Over G (lks σ) { S := G.S, M := mapM σ G.M A.obs } (fun p => lk p (mkO σ0 A.obs y)) (ownO A.obs) (keptO A.obs) := by
      refine ⟨rfl, fun o hq => ?_, fun o ob hl hob hst => ?_⟩
      · have hm := keptO_mem hq
        obtain ⟨ob, h1, h2⟩ := hkO o hm
        obtain ⟨ob', h3, h4⟩ := hmem1 _ hm
        have h4 : lk o σ0.sto = some ob' := h4
        rw [h1] at h4
        simp at h4
        subst h4
        refine ⟨h3.trans h2.symm, ?_⟩
        have := hM _ hm
        simp only [actual1] at this
        show mapM σ G.M A.obs o = G.M o
        rw [this, h2]
      · obtain ⟨tpl, hm, hnv⟩ := ownO_mem hl
        have hob : lk o σ.sto = some ob := hob
        obtain ⟨ob', h3, h4⟩ := hmem1 _ hm
        refine ⟨⟨ob', h3, ?_⟩, ?_⟩
        · cases tpl with
          | keep =>
            obtain ⟨ob2, h5, h6⟩ := hkO o hm
            have h4 : lk o σ0.sto = some ob' := h4
            rw [h5] at h4
            simp at h4; subst h4
            rw [h6] at hob
            simp at hob; subst hob
            exact hst
          | arr m s =>
            obtain ⟨xs, rfl, h5⟩ := h4
            rcases h5 with ⟨ver, h5⟩ | ⟨h5, _⟩
            · have h5 : lk o σ.sto = _ := h5
              rw [h5] at hob
              simp at hob; subst hob
              exact hst
            · have h5 : lk o σ.sto = none := h5
              rw [h5] at hob; simp at hob
          | cells ts => obtain ⟨vs, z, y0, y', _, _, rfl⟩ := h4; trivial
          | via t ts => exact absurd rfl (hnv t ts)
        · have := hM _ hm
          rw [actual1_own hnv] at this
          show mapM σ G.M A.obs o = G.M o
          rw [show mapM σ G.M A.obs o = _ from this, hob]
    -- slices under construction
    have hrefT : ∀ o ver v, (ownO A.obs).contains o = true → isRef (lks σ) o (.ref o ver) = true → VR0 G w (lks σ) (.ref o ver) v → VR0 { S := G.S, M := mapM σ G.M A.obs } w (fun p => lk p (mkO σ0 A.obs y)) (.ref o 0) v := by
      intro o ver v hl hr hv
      obtain ⟨_, m, s, xs, hob⟩ := isRef_ref hr
      obtain ⟨hlf, m', ver', s', xs', hob', hmf, hle, hrv⟩ := hv
      rw [hob] at hob'
      simp only [Option.some.injEq, Ob.arr.injEq] at hob'
      obtain ⟨rfl, rfl, rfl, e2⟩ := hob'
      have e3 := eq_of_heq e2
      subst e3
      have hob : lk o σ.sto = some (.arr m ver s xs) := hob
      obtain ⟨tpl, hm, hnv⟩ := ownO_mem hl
      obtain ⟨ob', h3, h4⟩ := hmem1 _ hm
      have hMo := hM _ hm
      rw [actual1_own hnv] at hMo
      simp only [hob] at hMo
      cases tpl with
      | keep =>
        obtain ⟨ob2, h5, h6⟩ := hkO o hm
        have h4 : lk o σ0.sto = some ob' := h4
        rw [h5] at h4
        simp at h4; subst h4
        rw [h6] at hob
        simp at hob; subst hob
        exact ⟨hlf, m, ver, s, xs, h3, hmf, by omega, fun e => by show RefV (mapM σ G.M A.obs o) _ _; rw [show mapM σ G.M A.obs o = _ from hMo]; exact hrv rfl⟩
      | arr m2 s2 =>
        obtain ⟨xs2, rfl, h5⟩ := h4
        rcases h5 with ⟨ver2, h5⟩ | ⟨h5, _⟩
        · have h5 : lk o σ.sto = _ := h5
          rw [h5] at hob
          simp only [Option.some.injEq, Ob.arr.injEq] at hob
          obtain ⟨rfl, rfl, rfl, e2⟩ := hob
          have e3 := eq_of_heq e2
          subst e3
          exact ⟨hlf, m2, 0, s2, xs2, h3, hmf, by omega, fun e => by show RefV (mapM σ G.M A.obs o) _ _; rw [show mapM σ G.M A.obs o = _ from hMo]; exact hrv rfl⟩
        · have h5 : lk o σ.sto = none := h5
          rw [h5] at hob; simp at hob
      | cells ts =>
        obtain ⟨vs, z, y0, y', h5, _, rfl⟩ := h4
        have h5 : lk o σ.sto = _ := h5
        rw [h5] at hob; simp at hob
      | via t ts => exact absurd rfl (hnv t ts)
    have hnilT : ∀ o, (ownO A.obs).contains o = true → lks σ o = none → ∀ v, v = Value.slice none 0 0 → VR0 { S := G.S, M := mapM σ G.M A.obs } w (fun p => lk p (mkO σ0 A.obs y)) (.ref o 0) v := by
      intro o hl hnone v hv
      subst hv
      have hnone : lk o σ.sto = none := hnone
      obtain ⟨tpl, hm, hnv⟩ := ownO_mem hl
      obtain ⟨ob', h3, h4⟩ := hmem1 _ hm
      have hMo := hM _ hm
      rw [actual1_own hnv] at hMo
      simp only [hnone] at hMo
      cases tpl with
      | keep =>
        obtain ⟨ob2, h5, h6⟩ := hkO o hm
        rw [h6] at hnone; simp at hnone
      | arr m2 s2 =>
        obtain ⟨xs2, rfl, h5⟩ := h4
        rcases h5 with ⟨ver2, h5⟩ | ⟨_, rfl, hmf, _⟩
        · have h5 : lk o σ.sto = _ := h5
          rw [h5] at hnone; simp at hnone
        · exact ⟨trivial, m2, 0, s2, [], h3, hmf, by omega, fun e => by show RefV (mapM σ G.M A.obs o) _ _; rw [show mapM σ G.M A.obs o = _ from hMo]; exact ⟨rfl, rfl⟩⟩
      | cells ts =>
        obtain ⟨vs, z, y0, y', h5, _, rfl⟩ := h4
        have h5 : lk o σ.sto = _ := h5
        rw [h5] at hnone; simp at hnone
      | via t ts => exact absurd rfl (hnv t ts)
    have hC : ∀ {z : Sch} {ts : List CTpl} {y0 : z.D} {cs : List AV} {vs : List Value} {y' : (schC ts z).D}, All2 (CR G w (lks σ)) cs vs → extC (lks σ) (ownO A.obs) y0 ts cs = some y' →
        All2 (CR { S := G.S, M := mapM σ G.M A.obs } w (fun p => lk p (mkO σ0 A.obs y))) (mkC ts y').1 vs := fun hcs hex =>
      (extC_rel h.obj hrefT hnilT rfl hcs hex).1
    -- the temporaries
    obtain ⟨y2, hy2, hT⟩ := mkT_rel (σ := σ) (σ0 := σ0) (l := ownO A.obs) (X := fun t av => VR { S := G.S, M := mapM σ G.M A.obs } w (fun p => lk p (mkO σ0 A.obs y)) av (a.tmps.getD t Go.undef)) he
      (fun t ag s x hm hx => by
        have hd : TyV G.S w (ag, s) x _ := decTy_rel h.obj (h.tm t) hx
        exact encTy_rel (G := { S := G.S, M := mapM σ G.M A.obs }) hd)
      (fun t hm => by
        have hcl := List.all_eq_true.1 hokT _ hm
        simp only at hcl
        rcases hkT t hm with e | e
        · have hv := h.tm t
          rw [e] at hv
          exact hover.vr hcl hv
        · rw [e]; simp only [VR, VR1, VR0])
      (fun t o hm hr hl => by
        have hv := h.tm t
        revert hr hv
        generalize get σ.tm t = q
        intro hr hv
        cases q <;> try (simp [isRef] at hr; done)
        case ref p ver =>
          have hp := (isRef_ref hr).1
          subst hp
          exact hrefT p ver _ hl hr hv
        case nils => exact hnilT o hl (by simpa [isRef] using hr) _ hv)
      (fun t o hm hvia => by
        obtain ⟨cs, hvm⟩ := viaOf_mem hvia
        obtain ⟨ob', h3, h4⟩ := hmem1 _ hvm
        obtain ⟨p, vs, z, y0, y', hp, hlk, hex, rfl⟩ := h4
        have hv := h.tm t
        rw [hp] at hv
        obtain ⟨_, b, c, hm', e⟩ := hv
        have hMo := hM _ hvm
        simp only [actual1, hp, hlk] at hMo
        exact ⟨⟨_, h3, trivial⟩, b, c, hMo.trans hm', e⟩)
    rw [hy] at hy2
    simp at hy2
    subst hy2
    obtain ⟨hT1, hT2, hT3⟩ := hT (List.replicate σ0.tm.length .undef) (fun t => by
      have : get (List.replicate σ0.tm.length AV.undef) t = .undef := by
        simp only [get, List.getD_eq_getElem?_getD, List.getElem?_replicate]
        split <;> rfl
      rw [this]
      simp only [VR, VR1, VR0])
    have hsto : (A.mk' σ0 v).sto = mkO σ0 A.obs y := hT2
    have htm : (A.mk' σ0 v).tm = (mkT σ0 A.tms A.obs v (List.replicate σ0.tm.length .undef)).1 := rfl
    refine ⟨{ S := G.S, M := mapM σ G.M A.obs }, h.below, h.bsz, h.s0, h.snew, h.slt, ?_, ?_, ?_, ?_, ?_⟩
    · rw [htm, hT3]
      simp
      rw [← hlen]
      exact h.tml
    · rw [htm, hsto]; exact hT1
    · rw [hsto]
      show All2 _ σ0.outs outs
      rw [← hout] at hokouts ⊢
      have : ∀ (l : List (List AV)) (m : List (Array Value)), (l.all fun l => l.all (closed (ownO A.obs) (keptO A.obs))) = true → All2 (fun (l : List AV) (arr : Array Value) => ∀ t, VR G w (lks σ) (get l t) (arr.getD t Go.undef)) l m →
          All2 (fun (l : List AV) (arr : Array Value) => ∀ t, VR { S := G.S, M := mapM σ G.M A.obs } w (fun p => lk p (mkO σ0 A.obs y)) (get l t) (arr.getD t Go.undef)) l m := by
        intro l
        induction l with
        | nil => intro m _ h; cases m with
          | nil => trivial
          | cons _ _ => exact h.elim
        | cons x r ih => intro m hc h; cases m with
          | nil => exact h.elim
          | cons q m =>
            simp only [List.all_cons, Bool.and_eq_true] at hc
            refine ⟨fun t => ?_, ih m hc.2 h.2⟩
            have hv := h.1 t
            rcases Nat.lt_or_ge t x.length with ht | ht
            · have hmem : get x t ∈ x := by
                have := getD_of_lt ht AV.undef
                exact List.mem_of_getElem? this
              exact hover.vr (List.all_eq_true.1 hc.1 _ hmem) hv
            · have : get x t = .undef := by simp [get, List.getD_eq_getElem?_getD, List.getElem?_eq_none ht]
              rw [this]; simp only [VR, VR1, VR0]
      exact this _ _ hokouts h.outl
    · rw [hsto]
      intro o ob hob
      obtain ⟨e, hem, rfl⟩ := hmem2 o ob hob
      obtain ⟨ob', h3, h4⟩ := hmem1 e hem
      rw [hob] at h3
      simp at h3; subst h3
      obtain ⟨o, tpl⟩ := e
      have hMo := hM _ hem
      cases tpl with
      | keep =>
        obtain ⟨ob2, h5, h6⟩ := hkO o hem
        have h4 : lk o σ0.sto = some ob := h4
        rw [h5] at h4
        simp at h4; subst h4
        simp only [actual1, h6] at hMo
        have hO := h.obj o ob2 h6
        cases ob2 with
        | arr m ver s xs =>
          refine ⟨hO.1, ?_⟩
          have := hO.2
          show ArrR G.S w B (mapM σ G.M A.obs o) m s xs
          rw [show mapM σ G.M A.obs o = _ from hMo]; exact this
        | cells fz cs =>
          obtain ⟨b, c, vs, ty, hm, hb, hh, ha, hs⟩ := hO
          have hcl := List.all_eq_true.1 hokO _ hem
          simp only [h5] at hcl
          exact ⟨b, c, vs, ty, hMo.trans hm, hb, hh, hover.crs hcl ha, hs⟩
      | arr m s =>
        obtain ⟨xs, rfl, h5⟩ := h4
        rcases h5 with ⟨ver, h5⟩ | ⟨h5, rfl, hmf, hpos⟩
        · have h5 : lk o σ.sto = _ := h5
          have hO := h.obj o _ h5
          simp only [actual1, h5] at hMo
          refine ⟨hO.1, ?_⟩
          show ArrR G.S w B (mapM σ G.M A.obs o) m s xs
          rw [show mapM σ G.M A.obs o = _ from hMo]; exact hO.2
        · have h5 : lk o σ.sto = none := h5
          simp only [actual1, h5] at hMo
          refine ⟨hpos, ?_⟩
          show ArrR G.S w B (mapM σ G.M A.obs o) m s []
          rw [show mapM σ G.M A.obs o = _ from hMo]; exact ⟨rfl, hmf⟩
      | cells ts =>
        obtain ⟨vs, z, y0, y', h5, hex, rfl⟩ := h4
        have h5 : lk o σ.sto = _ := h5
        simp only [actual1, h5] at hMo
        obtain ⟨b, c, us, ty, hm, hb, hh, ha, hs⟩ := h.obj o _ h5
        exact ⟨b, c, us, ty, hMo.trans hm, hb, hh, hC ha hex, hs⟩
      | via t ts =>
        obtain ⟨p, vs, z, y0, y', hp, h5, hex, rfl⟩ := h4
        simp only [actual1, hp, h5] at hMo
        obtain ⟨b, c, us, ty, hm, hb, hh, ha, hs⟩ := h.obj p _ h5
        exact ⟨b, c, us, ty, hMo.trans hm, hb, hh, hC ha hex, hs⟩
    · rw [hsto]
      intro o o' ob ob' b c c' hob hob' hm hm'
      obtain ⟨e, hem, rfl⟩ := hmem2 o ob hob
      obtain ⟨e', hem', rfl⟩ := hmem2 o' ob' hob'
      simp only at hm hm'
      have hm : mapM σ G.M A.obs e.1 = some (b, c) := hm
      have hm' : mapM σ G.M A.obs e'.1 = some (b, c') := hm'
      rw [hM e hem] at hm
      rw [hM e' hem'] at hm'
      split at hm
      · simp at hm
      · rename_i q hq
        split at hm'
        · simp at hm'
        · rename_i q' hq'
          have := h.inj _ _ q q' b c c' hq hq' hm hm'
          rw [nodup_inj hact hem hem' this]
  · simp at he

end
end Go.Pi
end

section
namespace Go.Pi
open Go.RowKit
set_option linter.unusedSimpArgs false
set_option linter.unusedVariables false

section
variable {P : Program} {B : Nat} {w0 : World} {S0 : Cells} {G G' : Gh} {outs : List (Array Value)} {σ : St} {a : Act} {w w' : World} {o : Oper}
variable {K : Act → World → Prop} {Q : Exit → Act → World → Prop} {E : Env} {inl : Inl}

def exOf : Ex → Exit
  | .normal => .normal
  | .exit i => .exit i
  | .ret => .ret

/-- Statements that draw their order. -/
def DrawOK (P : Program) (E : Env) : Prop :=
  ∀ (B : Nat) (w0 : World) (S0 : Cells) (outs : List (Array Value)) (G : Gh) (σ : St) (a : Act) (w : World) (Q : Exit → Act → World → Prop) (own : List Nat) (path rid : Nat) (ops : Array Oper) (k : St → Prop),
    Rel B w0 S0 G outs σ a w → drawOk ops = true → goD P E own path rid ops.size (befores ops.toList []) ops ops.toList 0 (fun X => X) σ k →
    (∀ σ' G' a' w', Pres σ σ' → Rel B w0 S0 G' outs σ' a' w' → a'.defers = a.defers → k σ' → Q .normal a' w') → (Code.region rid ops true).wp P Q a w

theorem wp_loop_n {c : Code} {V : Type} (R : V → Act → World → Prop) (step : (V → Prop) → V → Prop)
    (round : ∀ (again : V → Prop) v a w, R v a w → step again v → c.wp P (Exit.then (fun a' w' => ∃ v', again v' ∧ R v' a' w') Q) a w) :
    ∀ (n : Nat) (v : V) (a : Act) (w : World), iter step n v → R v a w → (Code.loop c).wp P Q a w := by
  intro n v a w hit hR b k cs
  have key : ∀ (n : Nat) (v : V) (a : Act) (w : World), iter step n v → R v a w →
      ∃ e a' w', Q e a' w' ∧ Arrives P (lone (b.at a (.code c :: .inLoop c :: k)) cs w) b k cs e a' w' := by
    intro n
    induction n with
    | zero => intro v a w h _; exact h.elim
    | succ n ih =>
      intro v a w h hR
      obtain ⟨e, a₁, w₁, hq, harr⟩ := round (iter step n) v a w hR h b (.inLoop c :: k) cs
      cases e with
      | normal =>
        obtain ⟨v', h1, h2⟩ := hq
        obtain ⟨e₂, a₂, w₂, hq₂, harr₂⟩ := ih v' a₁ w₁ h1 h2
        exact ⟨e₂, a₂, w₂, hq₂, .of_steps (Steps.trans harr (.one step_inLoop)) harr₂⟩
      | exit id => exact ⟨_, a₁, w₁, hq, .pass (x := .inLoop c) rfl (fun _ _ => .inl (by simp)) harr⟩
      | goto l => exact ⟨_, a₁, w₁, hq, .pass (x := .inLoop c) rfl (fun _ _ => .inl (by simp)) harr⟩
      | ret => exact ⟨_, a₁, w₁, hq, .pass (x := .inLoop c) rfl (fun _ _ => .inl (by simp)) harr⟩
      | panic ch => exact ⟨_, a₁, w₁, hq, .pass (x := .inLoop c) rfl (fun _ _ => .inl (by simp)) harr⟩
      | outgrown => exact ⟨_, a₁, w₁, hq, .pass (x := .inLoop c) rfl (fun _ _ => .inl (by simp)) harr⟩
  obtain ⟨e, a', w', hq, harr⟩ := key n v a w hit hR
  exact ⟨e, a', w', hq, .of_steps (.one step_loop) harr⟩

/-! ### what is kept at a loop -/
/-- The slots at a loop's head: data, or as at the entry, or nothing. -/
theorem mkT_get {σ0 : St} {obs : List (Nat × OTpl)} : ∀ {tms : List (Nat × Tpl)} {v : (schT tms obs).D} {tm : List AV} (t : Nat),
    t ∈ dataT tms ∨ get (mkT σ0 tms obs v tm).1 t = get σ0.tm t ∨ get (mkT σ0 tms obs v tm).1 t = get tm t
  | [], v, tm, t => .inr (.inr rfl)
  | (u, tpl) :: r, v, tm, t => by
    have rest : ∀ (av : AV) (v' : (schT r obs).D), (t ∈ dataT r ∨ get (mkT σ0 r obs v' (tm.set u av)).1 t = get σ0.tm t ∨ get (mkT σ0 r obs v' (tm.set u av)).1 t = get (tm.set u av) t) →
        t ∈ dataT r ∨ get (mkT σ0 r obs v' (tm.set u av)).1 t = get σ0.tm t ∨ get (mkT σ0 r obs v' (tm.set u av)).1 t = get tm t ∨ (t = u ∧ get (mkT σ0 r obs v' (tm.set u av)).1 t = av) := by
      intro av v' h
      rcases h with h | h | h
      · exact .inl h
      · exact .inr (.inl h)
      · rw [get_set] at h
        split at h
        · rename_i e; exact .inr (.inr (.inr ⟨e.1, h⟩))
        · exact .inr (.inr (.inl h))
    cases tpl with
    | data ag s =>
      rcases rest (encTy (ag, s) v.1) v.2 (mkT_get t) with h | h | h | h
      · exact .inl (.tail _ h)
      · exact .inr (.inl h)
      · exact .inr (.inr h)
      · exact .inl (h.1 ▸ .head _)
    | keep =>
      rcases rest (get σ0.tm u) v (mkT_get t) with h | h | h | h
      · exact .inl h
      · exact .inr (.inl h)
      · exact .inr (.inr h)
      · exact .inr (.inl (by rw [h.1]; exact h.1 ▸ h.2))
    | ref o =>
      rcases rest (.ref o 0) v (mkT_get t) with h | h | h | h
      · exact .inl (.tail _ h)
      · exact .inr (.inl h)
      · exact .inr (.inr h)
      · exact .inl (h.1 ▸ .head _)
    | ptr o =>
      rcases rest (.ptr o 0) v (mkT_get t) with h | h | h | h
      · exact .inl (.tail _ h)
      · exact .inr (.inl h)
      · exact .inr (.inr h)
      · exact .inl (h.1 ▸ .head _)

theorem mkT_len {σ0 : St} {obs : List (Nat × OTpl)} : ∀ {tms : List (Nat × Tpl)} {v : (schT tms obs).D} {tm : List AV}, (mkT σ0 tms obs v tm).1.length = tm.length
  | [], v, tm => rfl
  | (u, .data ag s) :: r, v, tm => (mkT_len (tms := r)).trans (List.length_set ..)
  | (u, .keep) :: r, v, tm => (mkT_len (tms := r)).trans (List.length_set ..)
  | (u, .ref o) :: r, v, tm => (mkT_len (tms := r)).trans (List.length_set ..)
  | (u, .ptr o) :: r, v, tm => (mkT_len (tms := r)).trans (List.length_set ..)

theorem mkO_get {σ0 : St} : ∀ {obs : List (Nat × OTpl)} {y : (schO obs).D} {o : Nat} {ob : Ob}, lk o (mkO σ0 obs y) = some ob → o ∈ dataO obs ∨ lk o σ0.sto = some ob
  | [], y, o, ob, h => by simp [mkO, lk] at h
  | (p, tpl) :: r, y, o, ob, h => by
    have hd : ∀ {ob' : Ob} {l : List (Nat × Ob)}, lk o ((p, ob') :: l) = some ob → (p = o) ∨ lk o l = some ob := by
      intro ob' l h
      simp only [lk] at h
      split at h
      · rename_i e; exact .inl e
      · exact .inr h
    cases tpl with
    | keep =>
      simp only [mkO] at h
      split at h
      · rename_i ob' hob'
        simp only [lk] at h
        split at h
        · rename_i e
          subst e
          simp at h; subst h
          exact .inr hob'
        · exact mkO_get (obs := r) h
      · exact mkO_get (obs := r) h
    | arr m s =>
      rcases hd h with rfl | h
      · exact .inl (.head _)
      · exact (mkO_get (obs := r) h).imp (.tail _) id
    | cells l =>
      rcases hd h with rfl | h
      · exact .inl (.head _)
      · exact (mkO_get (obs := r) h).imp (.tail _) id
    | via t l =>
      rcases hd h with rfl | h
      · exact .inl (.head _)
      · exact (mkO_get (obs := r) h).imp (.tail _) id

theorem mkT_snd {σ0 : St} {obs : List (Nat × OTpl)} : ∀ {tms : List (Nat × Tpl)} {v : (schT tms obs).D} {tm : List AV}, ∃ y, (mkT σ0 tms obs v tm).2 = mkO σ0 obs y
  | [], v, tm => ⟨v, rfl⟩
  | (u, .data ag s) :: r, v, tm => mkT_snd (tms := r)
  | (u, .keep) :: r, v, tm => mkT_snd (tms := r)
  | (u, .ref o) :: r, v, tm => mkT_snd (tms := r)
  | (u, .ptr o) :: r, v, tm => mkT_snd (tms := r)

/-- From the loop's entry to wherever it is left. -/
theorem Pres.after {A : LAnn} {σ σ' : St} {v : A.S.D} (h : Pres (A.mk' σ v) σ') : Pres σ (A.after σ σ') := by
  have hundef : ∀ t, get (List.replicate σ.tm.length AV.undef) t = .undef := fun t => by
    simp only [get, List.getD_eq_getElem?_getD, List.getElem?_replicate]
    split <;> rfl
  refine ⟨fun t => ?_, fun t ht => List.mem_append_right _ (List.mem_append_right _ ht), fun o => ?_, fun o ho => List.mem_append_right _ (List.mem_append_right _ ho), h.outs, ?_⟩
  · rcases h.tm t with h1 | h1 | h1
    · exact .inl (List.mem_append_left _ h1)
    · rcases mkT_get (σ0 := σ) (tms := A.tms) (obs := A.obs) (v := v) (tm := List.replicate σ.tm.length .undef) t with h2 | h2 | h2
      · exact .inl (List.mem_append_right _ (List.mem_append_left _ h2))
      · exact .inr (.inl (h1.trans h2))
      · exact .inr (.inr (h1.trans (h2.trans (hundef t))))
    · exact .inr (.inr h1)
  · rcases h.ob o with h1 | h1
    · exact .inl (List.mem_append_left _ h1)
    · by_cases hd : o ∈ dataO A.obs
      · exact .inl (List.mem_append_right _ (List.mem_append_left _ hd))
      · refine .inr fun ob hob => ?_
        have h2 := h1 ob hob
        obtain ⟨y, hy⟩ := mkT_snd (σ0 := σ) (tms := A.tms) (obs := A.obs) (v := v) (tm := List.replicate σ.tm.length .undef)
        have h2 : lk o (mkT σ A.tms A.obs v (List.replicate σ.tm.length .undef)).2 = some ob := h2
        rw [hy] at h2
        rcases mkO_get h2 with h3 | h3
        · exact (hd h3).elim
        · exact h3
  · have : (A.mk' σ v).tm.length = σ.tm.length := by
      show (mkT σ A.tms A.obs v (List.replicate σ.tm.length .undef)).1.length = _
      rw [mkT_len]; simp
    exact h.len.trans this

/-- What is kept, behind a round. -/
theorem mkT_keep {σ0 : St} {obs : List (Nat × OTpl)} {t : Nat} : ∀ {tms : List (Nat × Tpl)} {v : (schT tms obs).D} {tm : List AV}, t ∉ dataT tms → get tm t = get σ0.tm t → get (mkT σ0 tms obs v tm).1 t = get σ0.tm t
  | [], v, tm, _, h => h
  | (u, tpl) :: r, v, tm, hn, h => by
    have rest : ∀ av, (t = u → av = get σ0.tm u) → get (tm.set u av) t = get σ0.tm t := fun av ha => by
      rw [get_set]
      split
      · rename_i e; rw [ha e.1, e.1]
      · exact h
    cases tpl with
    | data ag s => simp only [dataT, List.mem_cons, not_or] at hn; exact mkT_keep (tms := r) hn.2 (rest _ fun e => (hn.1 e).elim)
    | keep => exact mkT_keep (tms := r) hn (rest _ fun _ => rfl)
    | ref o => simp only [dataT, List.mem_cons, not_or] at hn; exact mkT_keep (tms := r) hn.2 (rest _ fun e => (hn.1 e).elim)
    | ptr o => simp only [dataT, List.mem_cons, not_or] at hn; exact mkT_keep (tms := r) hn.2 (rest _ fun e => (hn.1 e).elim)

end
end Go.Pi
end

section
namespace Go.Pi
open Go.RowKit
set_option linter.unusedSimpArgs false
set_option linter.unusedVariables false

section
variable {P : Program} {B : Nat} {w0 : World} {S0 : Cells} {G G' : Gh} {outs : List (Array Value)} {σ : St} {a : Act} {w w' : World} {o : Oper}
variable {K : Act → World → Prop} {Q : Exit → Act → World → Prop} {E : Env} {inl : Inl}

theorem nodup_not {α : Type} {f : α → Nat} {p : α → Bool} : ∀ {l : List α} {x y : α}, nodupN (l.map f) = true → x ∈ l → y ∈ l → f x = f y → p x = p y := fun hn hx hy e => by rw [nodup_inj hn hx hy e]

theorem dataT_mem {t : Nat} : ∀ {tms : List (Nat × Tpl)}, t ∈ dataT tms → ∃ tpl, (t, tpl) ∈ tms ∧ tpl ≠ .keep
  | [], h => by simp [dataT] at h
  | (u, tpl) :: r, h => by
    have rest : t ∈ dataT r → ∃ tpl', (t, tpl') ∈ (u, tpl) :: r ∧ tpl' ≠ .keep := fun h => by
      obtain ⟨q, h1, h2⟩ := dataT_mem h
      exact ⟨q, .tail _ h1, h2⟩
    cases tpl with
    | keep => exact rest h
    | _ =>
      simp only [dataT, List.mem_cons] at h
      rcases h with rfl | h
      · exact ⟨_, .head _, by simp⟩
      · exact rest h

theorem dataO_mem {o : Nat} : ∀ {obs : List (Nat × OTpl)}, o ∈ dataO obs → ∃ tpl, (o, tpl) ∈ obs ∧ tpl ≠ .keep
  | [], h => by simp [dataO] at h
  | (u, tpl) :: r, h => by
    have rest : o ∈ dataO r → ∃ tpl', (o, tpl') ∈ (u, tpl) :: r ∧ tpl' ≠ .keep := fun h => by
      obtain ⟨q, h1, h2⟩ := dataO_mem h
      exact ⟨q, .tail _ h1, h2⟩
    cases tpl with
    | keep => exact rest h
    | _ =>
      simp only [dataO, List.mem_cons] at h
      rcases h with rfl | h
      · exact ⟨_, .head _, by simp⟩
      · exact rest h

theorem keep_join {A : LAnn} {σ σ' : St} (h : Pres { σ with dt := [], dob := [] } σ') (hk : A.keepOK σ σ' = true) :
    (∀ t, (t, Tpl.keep) ∈ A.tms → get σ'.tm t = get σ.tm t ∨ get σ.tm t = .undef) ∧ (∀ o, (o, OTpl.keep) ∈ A.obs → ∃ ob, lk o σ.sto = some ob ∧ lk o σ'.sto = some ob) ∧ σ'.outs = σ.outs ∧ σ'.tm.length = σ.tm.length := by
  unfold LAnn.keepOK at hk
  simp only [Bool.and_eq_true] at hk
  obtain ⟨hkT, hkO⟩ := hk
  refine ⟨fun t hm => ?_, fun o hm => ?_, h.outs, h.len⟩
  · have h1 := List.all_eq_true.1 hkT _ hm
    simp only [Bool.and_eq_true, Bool.not_eq_true', List.contains_eq_mem, decide_eq_false_iff_not] at h1
    obtain ⟨hdt, hdead⟩ := h1
    rcases h.tm t with h2 | h2 | h2
    · exact (hdt h2).elim
    · exact .inl h2
    · rw [h2] at hdead
      refine .inr ?_
      cases hg : get σ.tm t <;> simp [AV.dead, hg] at hdead <;> rfl
  · have h1 := List.all_eq_true.1 hkO _ hm
    simp only [Bool.and_eq_true, Bool.not_eq_true', List.contains_eq_mem, decide_eq_false_iff_not] at h1
    obtain ⟨hdob, hsome⟩ := h1
    cases hl : lk o σ'.sto with
    | none => rw [hl] at hsome; cases hsome
    | some ob =>
      rcases h.ob o with h2 | h2
      · exact (hdob h2).elim
      · exact ⟨ob, h2 ob hl, rfl⟩

theorem Pres.after0 {σ σ' : St} (h : Pres { σ with dt := [], dob := [] } σ') : Pres σ (LAnn.after0 σ σ') := by
  refine ⟨fun t => ?_, fun t ht => List.mem_append_right _ ht, fun o => ?_, fun o ho => List.mem_append_right _ ho, h.outs, h.len⟩
  · rcases h.tm t with h2 | h2 | h2
    · exact .inl (List.mem_append_left _ h2)
    · exact .inr (.inl h2)
    · exact .inr (.inr h2)
  · rcases h.ob o with h2 | h2
    · exact .inl (List.mem_append_left _ h2)
    · exact .inr h2

theorem keep_round {A : LAnn} {σ σ' : St} {v : A.S.D} (h : Pres (A.mk' σ v) σ') (hok : A.okAt σ = true) (hk : A.keepOK σ σ' = true) :
    (∀ t, (t, Tpl.keep) ∈ A.tms → get σ'.tm t = get σ.tm t ∨ get σ.tm t = .undef) ∧ (∀ o, (o, OTpl.keep) ∈ A.obs → ∃ ob, lk o σ.sto = some ob ∧ lk o σ'.sto = some ob) ∧ σ'.outs = σ.outs ∧ σ'.tm.length = σ.tm.length := by
  unfold LAnn.okAt at hok
  simp only [Bool.and_eq_true] at hok
  obtain ⟨⟨⟨⟨hids, _⟩, _⟩, _⟩, htms⟩ := hok
  unfold LAnn.keepOK at hk
  simp only [Bool.and_eq_true] at hk
  obtain ⟨hkT, hkO⟩ := hk
  have hundef : ∀ t, get (List.replicate σ.tm.length AV.undef) t = .undef := fun t => by
    simp only [get, List.getD_eq_getElem?_getD, List.getElem?_replicate]
    split <;> rfl
  refine ⟨fun t hm => ?_, fun o hm => ?_, h.outs, ?_⟩
  · have h1 := List.all_eq_true.1 hkT _ hm
    simp only [Bool.and_eq_true, Bool.not_eq_true', List.contains_eq_mem, decide_eq_false_iff_not] at h1
    obtain ⟨hdt, hdead⟩ := h1
    have dead : get σ'.tm t = .undef → get σ.tm t = .undef := fun e => by
      rw [e] at hdead
      cases hg : get σ.tm t <;> simp [AV.dead, hg] at hdead <;> rfl
    rcases h.tm t with h2 | h2 | h2
    · exact (hdt h2).elim
    · have hnd : t ∉ dataT A.tms := fun hd => by
        obtain ⟨tpl, h3, h4⟩ := dataT_mem hd
        have := nodup_inj (f := (·.1)) htms hm h3 rfl
        simp at this
        exact h4 this.symm
      rcases mkT_get (σ0 := σ) (tms := A.tms) (obs := A.obs) (v := v) (tm := List.replicate σ.tm.length .undef) t with h3 | h3 | h3
      · exact (hnd h3).elim
      · exact .inl (h2.trans h3)
      · exact .inr (dead (h2.trans (h3.trans (hundef t))))
    · exact .inr (dead h2)
  · have h1 := List.all_eq_true.1 hkO _ hm
    simp only [Bool.and_eq_true, Bool.not_eq_true', List.contains_eq_mem, decide_eq_false_iff_not] at h1
    obtain ⟨hdob, hsome⟩ := h1
    obtain ⟨ob, hob⟩ := Option.isSome_iff_exists.1 hsome
    refine ⟨ob, ?_, hob⟩
    rcases h.ob o with h2 | h2
    · exact (hdob h2).elim
    · have h3 := h2 ob hob
      obtain ⟨y, hy⟩ := mkT_snd (σ0 := σ) (tms := A.tms) (obs := A.obs) (v := v) (tm := List.replicate σ.tm.length .undef)
      have h3 : lk o (mkT σ A.tms A.obs v (List.replicate σ.tm.length .undef)).2 = some ob := h3
      rw [hy] at h3
      rcases mkO_get h3 with h4 | h4
      · obtain ⟨tpl, h5, h6⟩ := dataO_mem h4
        have hids : nodupN (A.obs.map (·.1)) = true := hids
        have := nodup_inj (f := (·.1)) hids hm h5 rfl
        simp at this
        exact (h6 this.symm).elim
      · exact h4
  · have : (A.mk' σ v).tm.length = σ.tm.length := by
      show (mkT σ A.tms A.obs v (List.replicate σ.tm.length .undef)).1.length = _
      rw [mkT_len]; simp
    exact h.len.trans this

theorem run_sound (hP : ProgOK P) (hE : EnvOK P E) (hD : DrawOK P E) (A : Anns) (hI : InlOK P inl) (c : Code) :
    ∀ (path n : Nat) (σ : St) (k : Ex → St → Prop) (G : Gh) (a : Act) (w : World) (Q : Exit → Act → World → Prop), run P E A inl path c n σ k → Rel B w0 S0 G outs σ a w → a.defers = [] →
      (∀ e σ' G' a' w', Pres σ σ' → Rel B w0 S0 G' outs σ' a' w' → a'.defers = [] → k e σ' → Q (exOf e) a' w') → c.wp P Q a w := by
  induction c with
  | skip => intro path n σ k G a w Q hr h hd hk; exact wp_skip (hk .normal σ G a w (Pres.refl σ) h hd hr)
  | ret => intro path n σ k G a w Q hr h hd hk; exact wp_ret (hk .ret σ G a w (Pres.refl σ) h hd hr)
  | exit i => intro path n σ k G a w Q hr h hd hk; exact wp_exit (hk (.exit i) σ G a w (Pres.refl σ) h hd hr)
  | label l => intro path n σ k G a w Q hr h hd hk; exact wp_label (hk .normal σ G a w (Pres.refl σ) h hd hr)
  | goto l => intro path n σ k G a w Q hr h hd hk; exact hr.elim
  | region rid ops draw =>
    intro path n σ k G a w Q hr h hd hk
    cases draw with
    | false =>
      refine wp_region ?_
      rw [List.range_eq_range']
      have := goOps_sound hP hE hI (Q := Q) [] ops.toList 0 (by simp) h hd hr fun σ' G' a' w' hp hR hd' hk' => hk .normal σ' G' a' w' hp hR hd' hk'
      simpa using this
    | true =>
      simp only [run] at hr
      split at hr
      · rename_i hdr
        obtain ⟨l, hl⟩ : ∃ l, preFrz ops σ = Pi.frz l σ := ⟨_, rfl⟩
        rw [hl] at hr
        obtain ⟨G1, h1⟩ := Rel.frz l h
        exact hD B w0 S0 outs G1 _ a w Q A.own path rid ops _ h1 hdr hr fun σ' G' a' w' hp hR hd' hk' => hk .normal σ' G' a' w' ((Pres.frz l σ).trans hp) hR (hd'.trans hd) hk'
      · exact hr.elim
  | seq x y ihx ihy =>
    intro path n σ k G a w Q hr h hd hk
    simp only [run] at hr
    split at hr
    · refine wp_seq (ihx path n σ _ G a w _ hr h hd fun e σ' G' a' w' hp hR hd' hk' => ?_)
      cases e with
      | normal => exact ihy path n σ' k G' a' w' Q hk' hR hd' fun e σ'' G'' a'' w'' hp' => hk e σ'' G'' a'' w'' (hp.trans hp')
      | exit i => exact hk (.exit i) σ' G' a' w' hp hR hd' hk'
      | ret => exact hk .ret σ' G' a' w' hp hR hd' hk'
    · rename_i L hL0
      split at hr
      · rename_i hok
        have hs : Rel B w0 S0 G outs { σ with dt := [], dob := [] } a w := h.congr rfl rfl fun _ => rfl
        refine wp_seq (ihx path n { σ with dt := [], dob := [] } _ G a w _ hr.out hs hd fun e σ1 G' a' w' hp hR hd' hk' => ?_)
        cases e with
        | normal =>
          simp only at hk'
          obtain ⟨G4, h4⟩ := Rel.frz (L.refs σ1) hR
          have hp4 := hp.trans (Pres.frz (L.refs σ1) σ1)
          revert hk' h4 hp4
          generalize Pi.frz (L.refs σ1) σ1 = σ'
          intro hk' h4 hp4
          split at hk'
          · rename_i hko
            split at hk'
            · rename_i v' hv'
              obtain ⟨b1, b2, b3, b4⟩ := keep_join hp4 hko
              obtain ⟨G5, h5⟩ := ext_rel h4 hok b1 b2 b3 b4 hv'
              exact ihy path n _ _ G5 a' w' Q hk' h5 hd' fun e σ2 G6 a6 w6 hp6 hR6 hd6 hk6 => hk e _ G6 a6 w6 hp6.after (hR6.congr rfl rfl fun _ => rfl) hd6 hk6
            · exact hk'.elim
          · exact hk'.elim
        | exit i => exact hk (.exit i) _ G' a' w' (Pres.after0 hp) (hR.congr rfl rfl fun _ => rfl) hd' hk'
        | ret => exact hk .ret _ G' a' w' (Pres.after0 hp) (hR.congr rfl rfl fun _ => rfl) hd' hk'
      · exact hr.elim
  | cond c x y ihx ihy =>
    intro path n σ k G a w Q hr h hd hk
    simp only [run] at hr
    split at hr
    · rename_i b hb
      have hv := ev_rel h c
      rw [hb] at hv
      have hv := hv.bool
      cases b with
      | true => exact wp_cond_true hv (ihx path n σ k G a w Q hr h hd hk)
      | false => exact wp_cond_false hv (ihy path n σ k G a w Q hr h hd hk)
    · exact hr.elim
  | block i c ih =>
    intro path n σ k G a w Q hr h hd hk
    refine wp_block (ih path i σ _ G a w _ hr h hd fun e σ' G' a' w' hp hR hd' hk' => ?_)
    · cases e with
      | normal => exact hk .normal σ' G' a' w' hp hR hd' hk'
      | ret => exact hk .ret σ' G' a' w' hp hR hd' hk'
      | exit j =>
        simp only at hk'
        show Exit.inBlock i Q (.exit j) a' w'
        unfold Exit.inBlock
        split at hk'
        · rename_i e
          subst e
          simp only [if_true]
          exact hk .normal σ' G' a' w' hp hR hd' hk'
        · rename_i e
          simp only [if_neg e]
          exact hk (.exit j) σ' G' a' w' hp hR hd' hk'
  | scope c ih =>
    intro path n σ k G a w Q hr h hd hk
    refine wp_scope_straight (ih path n σ k G a w _ hr h hd fun e σ' G' a' w' hp hR hd' hk' => ?_)
    · have := hk e σ' G' a' w' hp hR hd' hk'
      cases e <;> exact this
  | loop c ih =>
    intro path n σ0 k G a w Q hr h hd hk
    simp only [run] at hr
    split at hr
    · refine wp_loop_n (fun (q : Nat × St) a w => (∃ G, Rel B w0 S0 G outs q.2 a w) ∧ Pres σ0 q.2 ∧ a.defers = []) _ (fun again q a w hR hs => ?_) A.unroll (1, σ0) a w hr ⟨⟨G, h⟩, Pres.refl σ0, hd⟩
      obtain ⟨⟨G3, h3⟩, hp3, hd3⟩ := hR
      refine ih _ n _ _ G3 a w _ hs h3 hd3 fun e σ2 G' a' w' hp hR' hd' hk' => ?_
      · cases e with
        | normal => exact ⟨(q.1 + 1, σ2), hk', ⟨G', hR'⟩, hp3.trans hp, hd'⟩
        | exit i => exact hk (.exit i) σ2 G' a' w' (hp3.trans hp) hR' hd' hk'
        | ret => exact hk .ret σ2 G' a' w' (hp3.trans hp) hR' hd' hk'
    · rename_i L hL0
      obtain ⟨G1, h1⟩ := Rel.frz (L.fz ++ L.refs σ0) h
      have hpf := Pres.frz (L.fz ++ L.refs σ0) σ0
      revert hr h1 hpf
      generalize Pi.frz (L.fz ++ L.refs σ0) σ0 = σ
      intro hr h1 hpf
      split at hr
      · rename_i hok
        split at hr
        · exact hr.elim
        · rename_i v0 hv0
          obtain ⟨m, hit⟩ := hr
          have hkO0 : ∀ o, (o, OTpl.keep) ∈ L.obs → ∃ ob, lk o σ.sto = some ob ∧ lk o σ.sto = some ob := fun o hm => by
            unfold LAnn.okAt at hok
            simp only [Bool.and_eq_true] at hok
            have := List.all_eq_true.1 hok.1.1.2 _ hm
            simp only at this
            cases hlk : lk o σ.sto with
            | none => rw [hlk] at this; simp at this
            | some ob => exact ⟨ob, rfl, rfl⟩
          obtain ⟨G2, h2⟩ := ext_rel h1 hok (fun t _ => .inl rfl) hkO0 rfl rfl hv0
          refine wp_loop_n (fun v a w => (∃ G, Rel B w0 S0 G outs (L.mk' σ v) a w) ∧ a.defers = []) _ (fun again v a w hR hs => ?_) m v0 a w hit ⟨⟨G2, h2⟩, hd⟩
          obtain ⟨⟨G3, h3⟩, hd3⟩ := hR
          refine ih path n _ _ G3 a w _ hs h3 hd3 fun e σ1 G' a' w' hp hR' hd' hk' => ?_
          · cases e with
            | normal =>
              simp only at hk'
              obtain ⟨G4, h4⟩ := Rel.frz (L.refs σ1) hR'
              have hp4 := hp.trans (Pres.frz (L.refs σ1) σ1)
              revert hk' h4 hp4
              generalize Pi.frz (L.refs σ1) σ1 = σ'
              intro hk' h4 hp4
              split at hk'
              · rename_i hko
                split at hk'
                · rename_i v' hv'
                  obtain ⟨b1, b2, b3, b4⟩ := keep_round hp4 hok hko
                  obtain ⟨G5, h5⟩ := ext_rel h4 hok b1 b2 b3 b4 hv'
                  exact ⟨v', hk', ⟨G5, h5⟩, hd'⟩
                · exact hk'.elim
              · exact hk'.elim
            | exit i => exact hk (.exit i) _ G' a' w' (hpf.trans hp.after) (hR'.congr rfl rfl fun _ => rfl) hd' hk'
            | ret => exact hk .ret _ G' a' w' (hpf.trans hp.after) (hR'.congr rfl rfl fun _ => rfl) hd' hk'
      · exact hr.elim
  | _ => intro path n σ k G a w Q hr h hd hk; exact hr.elim

end
end Go.Pi
end

section
namespace Go.Pi
open Go.RowKit
set_option linter.unusedSimpArgs false
set_option linter.unusedVariables false

section
variable {P : Program} {B : Nat} {w0 : World} {S0 : Cells} {G G' : Gh} {outs : List (Array Value)} {σ : St} {a : Act} {w w' : World} {o : Oper} {look : Look}
variable {K : Act → World → Prop} {Q : Exit → Act → World → Prop} {E : Env} {inl : Inl}

theorem CR.noTup {c : AV} {v : Value} (h : CR G w look c v) : c.noTup = true := by
  cases c <;> first | rfl | exact h.1.elim

theorem wrapAgg_noTup {ag : Bool} {cs : List AV} {vs : List Value} (h : All2 (CR G w look) cs vs) : (wrapAgg ag cs).noTup = true := by
  cases ag with
  | true => rfl
  | false => cases cs with
    | nil => rfl
    | cons c r => cases vs with
      | nil => exact h.elim
      | cons v r' => exact h.1.noTup

def resM (tmps : Array Value) : ResultVar → Sem Value
  | .tmp t => pure (tmps.getD t undef)
  | .cell a t => do loadVar t (← asAddr (tmps.getD a undef))

theorem results_rel (h : Rel B w0 S0 G outs σ a w) : ∀ {rs : List ResultVar} {vs : Bool × List AV}, results P σ rs = some vs → vs.1 = true →
    ∃ vals, (rs.mapM (resM a.tmps)).run P w = .ok vals w ∧ All2 (VR G w (lks σ)) vs.2 vals ∧ ∀ v ∈ vs.2, v.noTup = true
  | [], vs, he, _ => by simp [results] at he; subst he; exact ⟨[], rfl, trivial, fun v hv => by simp at hv⟩
  | .tmp t :: r, vs, he, hc => by
    simp only [results] at he
    split at he
    · rename_i l hnt hl
      simp at he; subst he
      obtain ⟨vals, h1, h2, h3⟩ := results_rel h hl hc
      refine ⟨a.tmps.getD t undef :: vals, ?_, ⟨h.tm t, h2⟩, fun v hv => ?_⟩
      · simp only [List.mapM_cons, resM, Sem.run_bind, Sem.run_pure, Result.andThen_ok, h1]
      · rcases List.mem_cons.1 hv with rfl | hv
        · exact hnt
        · exact h3 v hv
    · simp at he
  | .cell x t :: r, vs, he, hc => by
    simp only [results] at he
    split at he
    · rename_i q l hq hl
      split at he
      · rename_i hok
        simp at he; subst he
        simp only [Bool.and_eq_true] at hc
        obtain ⟨vals, h1, h2, h3⟩ := results_rel h hl hc.2
        obtain ⟨c, cs⟩ := q
        obtain ⟨b, off, us, hv, hn, hcs, hC⟩ := read_rel h.obj (h.tm x) hq hc.1
        obtain ⟨k1, k2, k3⟩ := okT_parts hok
        have hload := loadVar_run (P := P) k1 hn k2 hC
        refine ⟨_ :: vals, ?_, ⟨wrapAgg_rel (ag := isAggT P t) ?_ hcs, h2⟩, fun v hv' => ?_⟩
        · simp only [List.mapM_cons, resM, hv, asAddr, Sem.run_bind, Sem.run_pure, Result.andThen_ok, hload, h1]
        · cases hag : isAggT P t with
          | true => exact .inr rfl
          | false => exact .inl (by rw [hcs.length, hn]; exact k2 hag)
        · rcases List.mem_cons.1 hv' with rfl | hv'
          · exact wrapAgg_noTup hcs
          · exact h3 v hv'
      · simp at he
    · simp at he

theorem results_run {fn : Func} {tmps : Array Value} {vals : List Value} (h : (fn.results.toList.mapM (resM tmps)).run P w = .ok vals w) : (Go.results fn tmps).run P w = .ok (packV vals) w := by
  have hfun : ∀ f : ResultVar → Sem Value, (∀ r, f r = resM tmps r) → (List.toArray <$> List.mapM f fn.results.toList).run P w = .ok vals.toArray w := fun f hf => by
    rw [funext hf]; simp [h]
  unfold Go.results
  rw [Array.mapM_eq_mapM_toList, Sem.run_bind, hfun _ (fun r => by cases r <;> rfl)]
  simp only [Result.andThen_ok, Sem.run_pure]
  congr 1
  cases vals with
  | nil => rfl
  | cons v r => cases r with
    | nil => rfl
    | cons _ _ => rfl

theorem pack_rel {avs : List AV} {vals : List Value} (h : All2 (VR G w look) avs vals) (hn : ∀ v ∈ avs, v.noTup = true) : VR G w look (pack avs) (packV vals) := by
  have tup : ∀ {avs : List AV} {vals : List Value}, All2 (VR G w look) avs vals → (∀ v ∈ avs, v.noTup = true) → VR G w look (.tup avs) (.tuple vals.toArray) := fun h hn =>
    ⟨_, rfl, vr1_of h fun v hv q e => by have := hn v hv; rw [e] at this; simp [AV.noTup] at this⟩
  cases avs with
  | nil => cases vals with
    | nil => exact tup trivial (fun v hv => by simp at hv)
    | cons _ _ => exact h.elim
  | cons c r => cases vals with
    | nil => exact h.elim
    | cons u us => cases r with
      | nil => cases us with
        | nil => exact h.1
        | cons _ _ => exact h.2.elim
      | cons c' r' => cases us with
        | nil => exact h.2.elim
        | cons u' us' => exact tup h hn

/-- The state in which a function's code starts. -/
theorem start_rel {avs : List AV} {args : List Value} (h : Rel B w0 S0 G outs σ a w) (hv : All2 (VR G w (lks σ)) avs args) (n : Nat) (dob : List Nat) :
    Rel B w0 S0 G (a.tmps :: outs) { tm := avs ++ List.replicate (n - avs.length) .undef, outs := σ.tm :: σ.outs, sto := σ.sto, dt := [], dob := dob }
      { tmps := args.toArray ++ Array.replicate (n - args.toArray.size) undef, defers := [] } w := by
  have hl := hv.length
  refine ⟨h.below, h.bsz, h.s0, h.snew, h.slt, by simp; omega, fun t => ?_, ⟨h.tm, h.outl⟩, h.obj, h.inj⟩
  show VR G w (lks σ) (get (avs ++ List.replicate (n - avs.length) .undef) t) ((args.toArray ++ Array.replicate (n - args.toArray.size) undef).getD t Go.undef)
  by_cases ht : t < avs.length
  · have e1 : get (avs ++ List.replicate (n - avs.length) .undef) t = avs.getD t .undef := by
      simp [get, List.getD_eq_getElem?_getD, List.getElem?_append_left ht]
    obtain ⟨v, h1, h2⟩ := hv.get t _ (getD_of_lt ht .undef)
    have e2 : (args.toArray ++ Array.replicate (n - args.toArray.size) undef).getD t Go.undef = v := by
      have : t < args.length := by omega
      simp only [Array.getD_eq_getD_getElem?, Array.getElem?_append]
      simp [this]
      rw [List.getElem?_eq_getElem this] at h1
      simpa using h1
    rw [e1, e2]; exact h2
  · have e1 : get (avs ++ List.replicate (n - avs.length) .undef) t = .undef := by
      simp only [get, List.getD_eq_getElem?_getD, List.getElem?_append_right (Nat.le_of_not_lt ht), List.getElem?_replicate]
      split <;> rfl
    rw [e1]
    simp only [VR, VR1, VR0]

theorem inlN_ok (hP : ProgOK P) (hE : EnvOK P E) (hD : DrawOK P E) (A : Anns) : ∀ d, InlOK P (inlN P E A d)
  | 0 => fun B w0 S0 outs site f avs σ k h => h.elim
  | d + 1 => fun B w0 S0 outs site f avs σ k h => by
    simp only [inlN] at h
    split at h
    · exact h.elim
    · rename_i fn hf
      split at h
      · exact h.elim
      · rename_i c hb
        refine ⟨⟨fn, hf, by simp [hb]⟩, fun G a w args R hR hv hk => ?_⟩
        refine calls_of_wp hf hb ?_
        have hst := start_rel hR hv fn.ntmps σ.dob
        refine run_sound hP hE hD A (inlN_ok hP hE hD A d) c site 0 _ _ G _ w _ h hst rfl fun e σ' G' a' w' hp hR' hd' hk' => ?_
        have key : (match results P σ' fn.results.toList with
          | none => False
          | some vs => br vs.1 (k (pack vs.2) { tm := σ.tm, outs := σ.outs, sto := σ'.sto, dt := σ.dt, dob := σ'.dob }) False) → a'.defers = [] ∧ ∃ v, (Go.results fn a'.tmps).run P w' = .ok v w' ∧ R (.returned v) w' := by
          intro hh
          split at hh
          · exact hh.elim
          · rename_i vs hvs
            obtain ⟨hc, hh⟩ := br_no hh
            obtain ⟨vals, h1, h2, h3⟩ := results_rel hR' hvs hc
            refine ⟨hd', packV vals, results_run h1, hk _ _ _ G' w' hh ?_ ?_ (pack_rel h2 h3)⟩
            · refine ⟨fun t => .inr (.inl rfl), fun t ht => ht, fun o => ?_, fun o ho => hp.dob o ho, rfl, rfl⟩
              exact hp.ob o
            · have ho := hp.outs
              have houtl := hR'.outl
              rw [ho] at houtl
              exact ⟨hR'.below, hR'.bsz, hR'.s0, hR'.snew, hR'.slt, hR.tml, houtl.1, houtl.2, hR'.obj, hR'.inj⟩
        cases e with
        | normal => exact key hk'
        | ret => exact key hk'
        | exit i => exact hk'.elim

/-! ### functions -/
theorem first_rel {S : Cells} {doms : List Ty} {x : (tyS doms).D} {args : List Value} (hS : ∀ b o, S b o → b < w.heap.size) (ht : TysV S w doms x args) (n : Nat) :
    Rel w.heap.size w S { S := S, M := fun _ => none } [] { tm := encs doms x ++ List.replicate (n - doms.length) .undef, outs := [], sto := [], dt := [], dob := [] }
      { tmps := args.toArray ++ Array.replicate (n - args.toArray.size) undef, defers := [] } w := by
  have hv : All2 (VR { S := S, M := fun _ => none } w (fun _ => none)) (encs doms x) args := encs_rel ht
  have hl := hv.length
  have hdl : (encs doms x).length = doms.length := by
    clear ht hv hl
    revert x
    induction doms with
    | nil => intro x; rfl
    | cons t r ih => cases r with
      | nil => intro x; rfl
      | cons t' r' => intro x; simp [encs]; simpa using ih
  have h0 : Rel w.heap.size w S { S := S, M := fun _ => none } [] { tm := [], outs := [], sto := [], dt := [], dob := [] } { tmps := #[], defers := [] } w := by
    refine ⟨Below.refl _ _, Nat.le_refl _, fun _ _ h => h, fun _ _ h => .inl h, hS, by simp, fun t => ?_, trivial, fun o ob h => by simp [lk] at h, fun o o' ob ob' b c c' h => by simp [lk] at h⟩
    have : get ([] : List AV) t = .undef := by simp [get]
    rw [this]
    simp only [VR, VR1, VR0]
  have h1 := start_rel h0 hv n []
  rw [hdl] at h1
  exact ⟨h1.below, h1.bsz, h1.s0, h1.snew, h1.slt, h1.tml, h1.tm, trivial, h1.obj, h1.inj⟩

theorem entry_ok (hP : ProgOK P) (hE : EnvOK P E) (hD : DrawOK P E) {A : Anns} {d f : Nat} {fn : Func} {en : Entry} (hf : P.funcs[f]? = some fn) (hbs : fn.body.isSome = true) (huq : en.uq = false) (htot : en.total = true → ∀ x, en.pre x)
    (h : ∀ x, en.pre x → runF P E A d fn en.doms en.cods x fun y => y = en.fn x) : EntryOK P f en := by
  cases hb : fn.body with
  | none => simp [hb] at hbs
  | some c =>
    refine ⟨⟨fn, hf, by simp [hb]⟩, htot, fun S w args x hS ht hpre => ?_⟩
    have hr := h x hpre
    unfold runF at hr
    rw [hb] at hr
    simp only at hr
    refine calls_of_wp hf hb ?_
    have hst := first_rel hS ht fn.ntmps
    refine run_sound hP hE hD A (inlN_ok hP hE hD A d) c 1 0 _ _ _ _ w _ hr hst rfl fun e σ' G' a' w' hp hR' hd' hk' => ?_
    have key : finF P fn en.cods σ' (fun y => y = en.fn x) → a'.defers = [] ∧ ∃ v, (Go.results fn a'.tmps).run P w' = .ok v w' ∧ (Ret S w en.cods (en.fn x) v w' ∧ (en.uq = true → RetU S w en.cods (en.fn x) v w')) := by
      intro hh
      unfold finF at hh
      split at hh
      · exact hh.elim
      · rename_i vs hvs
        split at hh
        · rename_i y hy
          obtain ⟨hc, rfl⟩ := br_no hh
          obtain ⟨vals, h1, h2, h3⟩ := results_rel hR' hvs hc
          obtain ⟨G2, hR2, hx⟩ := Rel.frzX (vs.2.flatMap refsOf) hR'
          have h4 : All2 (VR G2 w' (lks (Pi.frz (vs.2.flatMap refsOf) σ'))) vs.2 vals := h2.imp fun _ _ hv => VR.ext hx hv
          refine ⟨hd', packV vals, results_run h1, ⟨hR2.below, G2.S, hR2.s0, hR2.snew, hR2.slt, vals, decs_rel hR2.obj h4 hy, rfl⟩, fun e => by rw [huq] at e; simp at e⟩
        · exact hh.elim
    cases e with
    | normal => exact key hk'
    | ret => exact key hk'
    | exit i => exact hk'.elim

end
end Go.Pi
end

section
namespace Go.Pi
open Go.RowKit
set_option linter.unusedSimpArgs false
set_option linter.unusedVariables false

section
variable {P : Program} {E : Env} {own : List Nat} {site : Nat} {o : Oper} {look look' : Look} {ρ ρ' : Operand → AV}

def Le (a b : AV) : Prop := a = .undef ∨ a = b
theorem Le.rfl {a : AV} : Le a a := .inr _root_.rfl

theorem dec_mono : ∀ {s : Sch} {cs cs' : List AV} {x : s.D} {r : List AV}, All2 Le cs cs' → s.dec cs = some (x, r) → ∃ r', s.dec cs' = some (x, r') ∧ All2 Le r r' := by
  intro s
  induction s with
  | unit => intro cs cs' x r h e; simp [Sch.dec] at e; exact ⟨cs', by simp [Sch.dec], e ▸ h⟩
  | pair p q ihp ihq =>
    intro cs cs' x r h e
    simp only [Sch.dec] at e
    split at e
    · simp at e
    · rename_i x1 r1 e1
      split at e
      · simp at e
      · rename_i x2 r2 e2
        simp at e
        obtain ⟨rfl, rfl⟩ := e
        obtain ⟨r1', h1, h2⟩ := ihp h e1
        obtain ⟨r2', h3, h4⟩ := ihq h2 e2
        exact ⟨r2', by simp [Sch.dec, h1, h3], h4⟩
  | _ =>
    intro cs cs' x r h e
    cases cs with
    | nil => simp [Sch.dec] at e
    | cons c cs => cases cs' with
      | nil => exact h.elim
      | cons c' cs' =>
        have hc : c = c' := by
          rcases h.1 with h1 | h1
          · subst h1; simp [Sch.dec] at e
          · exact h1
        subst hc
        cases c <;> simp [Sch.dec] at e <;> first
          | (obtain ⟨h1, h2, h3⟩ := e; subst h1; subst h2; subst h3; exact ⟨cs', by simp [Sch.dec], h.2⟩)
          | (obtain ⟨h1, h2⟩ := e; subst h1; subst h2; exact ⟨cs', by simp [Sch.dec], h.2⟩)
          | (obtain ⟨⟨h0, h1⟩, h2⟩ := e; subst h0; subst h2; exact ⟨cs', by simp [Sch.dec]; exact h1, h.2⟩)

theorem full_mono {s : Sch} {cs cs' : List AV} {x : s.D} (h : All2 Le cs cs') (e : full s cs = some x) : full s cs' = some x := by
  unfold full at e
  split at e
  · rename_i y ey
    simp at e; subst e
    obtain ⟨r', h1, h2⟩ := dec_mono h ey
    cases r' with
    | nil => simp [full, h1]
    | cons _ _ => exact h2.elim
  · simp at e

theorem decN_mono {s : Sch} : ∀ {n : Nat} {cs cs' : List AV} {xs : List s.D}, All2 Le cs cs' → decN s n cs = some xs → decN s n cs' = some xs
  | 0, cs, cs', xs, h, e => by cases cs with
    | nil => cases cs' with
      | nil => exact e
      | cons _ _ => exact h.elim
    | cons _ _ => simp [decN] at e
  | n + 1, cs, cs', xs, h, e => by
    simp only [decN] at e
    split at e
    · rename_i x r e1
      split at e
      · rename_i ys e2
        simp at e; subst e
        obtain ⟨r', h1, h2⟩ := dec_mono h e1
        simp [decN, h1, decN_mono h2 e2]
      · simp at e
    · simp at e

theorem pur_le (h : ∀ p ob, look p = some ob → look' p = some ob) (v : AV) : Le (pur look v) (pur look' v) := by
  unfold pur
  split
  · rename_i o ver
    split
    · rename_i ver' s xs ho
      rw [h o _ ho]
      exact .rfl
    · exact .inl rfl
  · exact .rfl

theorem purs_le (h : ∀ p ob, look p = some ob → look' p = some ob) : ∀ cs : List AV, All2 Le (cs.map (pur look)) (cs.map (pur look'))
  | [] => trivial
  | c :: r => ⟨pur_le h c, purs_le h r⟩

theorem decTy_mono (h : ∀ p ob, look p = some ob → look' p = some ob) {t : Ty} {v : AV} {x : t.2.D} (e : decTy look t v = some x) : decTy look' t v = some x := by
  obtain ⟨ag, s⟩ := t
  cases ag with
  | true => cases v <;> simp only [decTy] at e ⊢ <;> first | (simp at e; done) | exact full_mono (purs_le h _) e
  | false =>
    cases v <;> simp only [decTy] at e ⊢ <;> first | (simp at e; done) | exact full_mono (cs := [pur look _]) (cs' := [pur look' _]) ⟨pur_le h _, trivial⟩ e

theorem decs_mono (h : ∀ p ob, look p = some ob → look' p = some ob) : ∀ {l : List Ty} {vs : List AV} {x : (tyS l).D}, decs look l vs = some x → decs look' l vs = some x
  | [], vs, x, e => by cases vs <;> simp [decs] at e ⊢
  | [t], vs, x, e => by
    cases vs with
    | nil => simp [decs] at e
    | cons v r => cases r with
      | nil => simp only [decs] at e ⊢; exact decTy_mono h e
      | cons _ _ => simp [decs] at e
  | t :: t' :: r, vs, x, e => by
    cases vs with
    | nil => simp [decs] at e
    | cons v vs =>
      simp only [decs] at e
      split at e
      · rename_i y ys e1 e2
        simp at e; subst e
        simp only [decs, decTy_mono h e1, decs_mono h e2]
      · simp at e

theorem setParts_mono (h : ∀ p ob, look p = some ob → look' p = some ob) {ag : Bool} {s : Sch} : ∀ {ps : List (Nat × AV)} {xs ys : List s.D}, setParts look ag s ps xs = some ys → setParts look' ag s ps xs = some ys
  | [], xs, ys, e => e
  | (i, v) :: r, xs, ys, e => by
    simp only [setParts] at e
    split at e
    · rename_i x hx
      split at e
      · rename_i hi
        simp only [setParts, decTy_mono h hx, if_pos hi]
        exact setParts_mono h e
      · simp at e
    · simp at e

theorem readPtr_mono (h : ∀ p ob, look p = some ob → look' p = some ob) {n : Nat} {v : AV} {r : Bool × List AV} (e : readPtr look n v = some r) : readPtr look' n v = some r := by
  cases v <;> simp only [readPtr] at e ⊢ <;> try (first | exact e | (simp at e; done))
  case ptr o off =>
    cases hl : look o with
    | none => simp [hl] at e
    | some ob => rw [h o ob hl]; rw [hl] at e; exact e
  case ptre o ver i off =>
    cases hl : look o with
    | none => simp [hl] at e
    | some ob => rw [h o ob hl]; rw [hl] at e; exact e
  case pix o base s m i off =>
    cases hl : look o with
    | none => simp [hl] at e
    | some ob => rw [h o ob hl]; rw [hl] at e; exact e

theorem writePtr_mono (h : ∀ p ob, look p = some ob → look' p = some ob) {vs : List AV} {v : AV} {r : Bool × Nat × Ob} (e : writePtr look vs v = some r) : writePtr look' vs v = some r := by
  have hp := purs_le h vs
  cases v <;> simp only [writePtr] at e ⊢ <;> try (first | exact e | (simp at e; done))
  case ptr o off =>
    cases hl : look o with
    | none => simp [hl] at e
    | some ob =>
      rw [h o ob hl]; rw [hl] at e
      cases ob with
      | cells fz cs => cases fz <;> exact e
      | arr m ver s xs =>
        cases m <;> simp only [] at e ⊢ <;> try (simp at e; done)
        cases off <;> simp only [] at e ⊢ <;> try (simp at e; done)
        split at e
        · rename_i ys hy; simp only [decN_mono hp hy]; exact e
        · simp at e
  case ptre o ver i off =>
    cases hl : look o with
    | none => simp [hl] at e
    | some ob =>
      rw [h o ob hl]; rw [hl] at e
      cases ob with
      | cells fz cs => exact e
      | arr m ver' s xs =>
        simp only [] at e ⊢
        split at e
        · rename_i h1
          rw [if_pos h1]
          split at e
          · rename_i h2
            rw [if_pos (by simpa using h2)]
            split at e
            · rename_i x hx
              have hle : All2 Le (splice (s.enc (xs.getD i s.dflt)) off (vs.map (pur look))) (splice (s.enc (xs.getD i s.dflt)) off (vs.map (pur look'))) := by
                have hrefl : ∀ l : List AV, All2 Le l l := fun l => by induction l with
                  | nil => trivial
                  | cons _ _ ih => exact ⟨.rfl, ih⟩
                unfold splice
                simp only [List.length_map]
                exact ((hrefl _).append hp).append (hrefl _)
              obtain ⟨r', h3, h4⟩ := dec_mono hle hx
              cases r' with
              | nil => simp only [h3]; exact e
              | cons _ _ => exact h4.elim
            · simp at e
          · simp at e
        · simp at e
  case pix o base s m i off =>
    cases hl : look o with
    | none => simp [hl] at e
    | some ob =>
      rw [h o ob hl]; rw [hl] at e
      cases ob with
      | arr _ _ _ _ => simp at e
      | cells fz cs =>
        cases fz with
        | true => simp at e
        | false =>
          simp only [] at e ⊢
          split at e
          · rename_i h1
            rw [if_pos (by simpa using h1)]
            split at e
            · rename_i xs hxs
              split at e
              · rename_i x hx
                have hle : All2 Le (splice (s.enc (xs.getD i s.dflt)) off (vs.map (pur look))) (splice (s.enc (xs.getD i s.dflt)) off (vs.map (pur look'))) := by
                  have hrefl : ∀ l : List AV, All2 Le l l := fun l => by induction l with
                    | nil => trivial
                    | cons _ _ ih => exact ⟨.rfl, ih⟩
                  unfold splice
                  simp only [List.length_map]
                  exact ((hrefl _).append hp).append (hrefl _)
                obtain ⟨r', h3, h4⟩ := dec_mono hle hx
                cases r' with
                | nil => simp only [hxs, h3]; exact e
                | cons _ _ => exact h4.elim
              · simp at e
            · simp at e
          · simp at e

theorem lenAV_mono (h : ∀ p ob, look p = some ob → look' p = some ob) {v : AV} {n : Nat} (e : lenAV look v = some n) : lenAV look' v = some n := by
  cases v <;> simp only [lenAV] at e ⊢ <;> try (first | exact e | (simp at e; done))
  rename_i o ver
  cases hl : look o with
  | none => simp [hl] at e
  | some ob => rw [h o ob hl]; rw [hl] at e; exact e

theorem ptrOk_mono (h : ∀ p ob, look p = some ob → look' p = some ob) {v : AV} (e : ptrOk look v = true) : ptrOk look' v = true := by
  cases v <;> simp only [ptrOk] at e ⊢ <;> try (first | exact e | (simp at e; done))
  rename_i o ver i off
  cases hl : look o with
  | none => simp [hl] at e
  | some ob => rw [h o ob hl]; rw [hl] at e; exact e

end
end Go.Pi
end

section
namespace Go.Pi
open Go.RowKit
set_option linter.unusedSimpArgs false
set_option linter.unusedVariables false

section
variable {P : Program} {E : Env} {own : List Nat} {site : Nat} {o : Oper} {look look' : Look} {ρ ρ' : Operand → AV}

theorem map_pairs_congr {ps : Array (Nat × Operand)} (h : ∀ x ∈ (ps.toList.map (·.2)).toArray, ρ x = ρ' x) : (ps.toList.map fun p => (p.1, ρ p.2)) = ps.toList.map fun p => (p.1, ρ' p.2) :=
  List.map_congr_left fun p hp => by rw [h p.2 (by simp; exact ⟨p.1, by simpa using hp⟩)]

theorem map_args_congr {xs : Array Operand} (h : ∀ x ∈ xs, ρ x = ρ' x) : xs.toList.map ρ = xs.toList.map ρ' := List.map_congr_left fun x hx => h x (by simpa using hx)

theorem optInt_congr {x : Option Operand} (h : ∀ y ∈ x.toArray, ρ y = ρ' y) : optInt ρ x = optInt ρ' x := by
  cases x with
  | none => rfl
  | some y => simp only [optInt, h y (by simp)]

/-- It hangs on its operands alone. -/
theorem opF_congr (h : ∀ x ∈ o.op.operands, ρ x = ρ' x) : opF P E own site ρ look o = opF P E own site ρ' look o := by
  cases ho : o.op <;> rw [ho] at h <;> simp only [Op.operands] at h <;> simp only [opF, ho]
  case move x => rw [h x (by simp)]
  case assign x => rw [h x (by simp)]
  case pick c x y => rw [h c (by simp), h x (by simp), h y (by simp)]
  case box t x => rw [h x (by simp)]
  case load t x => rw [h x (by simp)]
  case store t x y => rw [h x (by simp), h y (by simp)]
  case fieldAddr t x f => rw [h x (by simp)]
  case indexAddr t x i => rw [h x (by simp), h i (by simp)]
  case index t x i => rw [h x (by simp), h i (by simp)]
  case field t x f => rw [h x (by simp)]
  case binOp op t x y t' => rw [h x (by simp), h y (by simp)]
  case unOp op t x => rw [h x (by simp)]
  case convert s d x => rw [h x (by simp)]
  case build t ps => rw [map_pairs_congr h]
  case buildSlice t n ps => rw [map_pairs_congr h]
  case extract x i => rw [h x (by simp)]
  case makeFunc fv first cap => rw [map_args_congr fun x hx => h x (by simp [hx])]
  case makeSlice t x y => rw [h x (by simp), h y (by simp)]
  case slice t x lo hi mx =>
    rw [h x (by simp), optInt_congr (x := lo) fun y hy => h y (by simp only [Array.mem_append]; exact .inl (.inl (.inr hy))), optInt_congr (x := hi) fun y hy => h y (by simp only [Array.mem_append]; exact .inl (.inr hy))]
  case call c =>
    have hargs : ∀ x ∈ c.args, ρ x = ρ' x := fun x hx => h x (by simp [Call.operands, hx])
    have hget : ∀ i x, c.args[i]? = some x → ρ x = ρ' x := fun i x hx => hargs x (Array.mem_of_getElem? hx)
    have hmap := map_args_congr hargs
    cases hc : c.callee with
    | value f =>
      have hf : ρ f = ρ' f := h f (by simp [Call.operands, hc])
      simp only [hf, hmap]
    | invoke r m => rfl
    | builtin b =>
      cases b <;> try rfl
      case len =>
        show (match c.argTypes[0]?, c.args[0]? with
          | some t, some x => _
          | _, _ => none) = _
        cases h1 : c.args[0]? with
        | none => cases c.argTypes[0]? <;> rfl
        | some x =>
          have := hget 0 x h1
          cases c.argTypes[0]? with
          | none => rfl
          | some t => simp only [this]
      case append =>
        cases h1 : c.args[0]? with
        | none => cases c.argTypes[0]? <;> cases c.argTypes[1]? <;> rfl
        | some x => cases h2 : c.args[1]? with
          | none => cases c.argTypes[0]? <;> cases c.argTypes[1]? <;> rfl
          | some y =>
            have e1 := hget 0 x h1
            have e2 := hget 1 y h2
            cases c.argTypes[0]? <;> cases c.argTypes[1]? <;> first | rfl | simp only [e1, e2]
      case max => simp only [hmap]
      case min => simp only [hmap]

/-- Some operations do not look at memory. -/
theorem opF_look (h : cls o = 0) : opF P E own site ρ look o = opF P E own site ρ look' o := by
  unfold cls at h
  cases ho : o.op <;> simp only [ho] at h <;> try (simp at h; done)
  all_goals first
    | (simp only [opF, ho]; done)
    | (simp only [opF, ho]; rfl)
    | (exfalso; split at h <;> simp at h)

/-- One object at most is turned: a new one of its own, unless it writes. -/
def UpdOK (look : Look) (site : Nat) (k : Nat) (upd : List (Nat × Ob)) : Prop :=
  upd = [] ∨ (k ≠ 0 ∧ ∃ p ob, upd = [(p, ob)] ∧ (k ≠ 3 → p = site ∧ look site = none))

theorem bin_upd {op : BinOp} {k : IntKind} {x y : Int} {e : Eff} (h : bin op k x y = some e) : e.upd = [] := by
  cases op <;> simp only [bin] at h <;> first | (rw [one_eq h]; done) | (rw [chk1_eq h]; done) | (simp at h; done)

theorem opF_upd {e : Eff} (h : opF P E own site ρ look o = some e) : UpdOK look site (cls o) e.upd := by
  have none1 : ∀ {v : AV}, one v = some e → UpdOK look site (cls o) e.upd := fun h => by rw [one_eq h]; exact .inl rfl
  have chk : ∀ {c : Bool} {v : AV}, chk1 c v = some e → UpdOK look site (cls o) e.upd := fun h => by rw [chk1_eq h]; exact .inl rfl
  have own1 : ∀ {c r : Bool} {p : Option Prop} {v : AV} {ob : Ob}, cls o ≠ 0 → look site = none → some (⟨c, r, p, v, [(site, ob)]⟩ : Eff) = some e → UpdOK look site (cls o) e.upd := fun hk hs h => by
    obtain rfl := Option.some.inj h
    exact .inr ⟨hk, _, _, rfl, fun _ => ⟨rfl, hs⟩⟩
  cases ho : o.op <;> simp only [opF, ho] at h <;> try (simp at h; done)
  case store t x y =>
    split at h
    · split at h
      · split at h
        · obtain rfl := Option.some.inj h
          have hk : cls o = 3 := by simp [cls, ho]
          exact .inr ⟨by rw [hk]; decide, _, _, rfl, fun hn => (hn hk).elim⟩
        · simp at h
      · simp at h
    · simp at h
  case alloc t =>
    have hk : cls o ≠ 0 := by simp [cls, ho]
    split at h
    · rename_i zs hs hz
      split at h
      · split at h
        · split at h
          · exact own1 hk hs h
          · simp at h
        · simp at h
      · exact own1 hk hs h
    · simp at h
  case box t x =>
    have hk : cls o ≠ 0 := by simp [cls, ho]
    split at h
    · rename_i zs hs hz
      split at h
      · split at h
        · split at h
          · exact own1 hk hs h
          · simp at h
        · simp at h
      · exact own1 hk hs h
    · simp at h
  case buildSlice t n ps =>
    have hk : cls o ≠ 0 := by simp [cls, ho]
    split at h
    · split at h
      · split at h
        · split at h
          · split at h
            · split at h
              · exact none1 h
              · split at h
                · rename_i hs; exact own1 hk hs h
                · simp at h
            · simp at h
          · simp at h
        · simp at h
      · simp at h
    · simp at h
  case makeSlice t x y =>
    have hk : cls o ≠ 0 := by simp [cls, ho]
    split at h
    · split at h
      · simp at h
      · rename_i hs
        split at h
        · split at h
          · exact own1 hk hs h
          · simp at h
        · simp at h
    · simp at h
  case slice t x lo hi mx =>
    split at h
    · split at h
      · split at h
        · split at h
          · obtain rfl := Option.some.inj h; exact .inl rfl
          · simp at h
        · simp at h
      · split at h
        · obtain rfl := Option.some.inj h; exact .inl rfl
        · simp at h
    · simp at h
  case call c =>
    cases hc : c.callee <;> simp only [hc] at h <;> try (simp at h; done)
    case builtin b =>
      cases b <;> simp only [] at h <;> try (simp at h; done)
      case len =>
        split at h
        · split at h
          · exact none1 h
          · split at h
            · obtain rfl := Option.some.inj h; exact .inl rfl
            · simp at h
          · split at h
            · exact none1 h
            · simp at h
          · simp at h
        · simp at h
      case max => split at h <;> first | (split at h <;> first | exact none1 h | (simp at h; done)) | (simp at h; done)
      case min => split at h <;> first | (split at h <;> first | exact none1 h | (simp at h; done)) | (simp at h; done)
      case append =>
        have hk : cls o = 3 := by simp [cls, ho, hc]
        split at h
        · split at h
          · split at h
            · split at h
              · unfold appF at h
                split at h
                · split at h
                  · obtain rfl := Option.some.inj h
                    exact .inr ⟨by rw [hk]; decide, _, _, rfl, fun hn => (hn hk).elim⟩
                  · simp at h
                · split at h
                  · obtain rfl := Option.some.inj h; exact .inl rfl
                  · simp at h
                · split at h
                  · split at h
                    · split at h
                      · split at h
                        · obtain rfl := Option.some.inj h
                          exact .inr ⟨by rw [hk]; decide, _, _, rfl, fun hn => (hn hk).elim⟩
                        · obtain rfl := Option.some.inj h
                          exact .inr ⟨by rw [hk]; decide, _, _, rfl, fun hn => (hn hk).elim⟩
                        · simp at h
                      · simp at h
                    · simp at h
                  · simp at h
                · simp at h
              · simp at h
            · simp at h
          · simp at h
        · simp at h
    case value f =>
      have hk : cls o ≠ 0 := by simp [cls, ho, hc]
      split at h
      · split at h
        · split at h
          · split at h
            · obtain rfl := Option.some.inj h; exact .inl rfl
            · unfold callOwn at h
              split at h
              · rename_i hs
                split at h
                · exact own1 hk hs h
                · simp at h
              · simp at h
          · simp at h
        · simp at h
      · simp at h
  case indexAddr t x i =>
    split at h <;> first
      | (simp at h; done)
      | (split at h <;> first
        | (simp at h; done)
        | (split at h <;> first
          | (simp at h; done)
          | exact chk h
          | (split at h <;> first
            | (simp at h; done)
            | exact chk h
            | (split at h <;> first | exact chk h | (simp at h; done)))))
  all_goals
    repeat' (first | exact none1 h | exact chk h | exact .inl (bin_upd h) | (simp at h; done) | split at h)

end
end Go.Pi
end

section
namespace Go.Pi
open Go.RowKit
set_option linter.unusedSimpArgs false
set_option linter.unusedVariables false

section
variable {P : Program} {E : Env} {own : List Nat} {site : Nat} {o : Oper} {look look' : Look} {ρ : Operand → AV}

set_option maxHeartbeats 4000000 in
theorem opF_mono (h : ∀ p ob, look p = some ob → look' p = some ob) (hs : look site = none → look' site = none) {e : Eff} (he : opF P E own site ρ look o = some e) : opF P E own site ρ look' o = some e := by
  cases ho : o.op <;> simp only [opF, ho] at he ⊢ <;> try (first | exact he | (simp at he; done))
  case alloc t =>
    split at he
    · rename_i zs h1 h2; rw [hs h1, h2]; exact he
    · simp at he
  case box t x =>
    split at he
    · rename_i vs h1 h2
      rw [hs h1, h2]
      simp only []
      split at he
      · rename_i m el hu
        try simp only [hu]
        split at he
        · rename_i hpos
          rw [if_pos hpos]
          split at he
          · rename_i xs hx
            simp only [decN_mono (purs_le h vs) hx]
            exact he
          · simp at he
        · simp at he
      · exact he
    · simp at he
  case load t x =>
    split at he
    · rename_i r hr; simp only [readPtr_mono h hr]; exact he
    · simp at he
  case store t x y =>
    split at he
    · rename_i vs hv
      try simp only [hv]
      split at he
      · rename_i hc
        rw [if_pos hc]
        split at he
        · rename_i u hu; simp only [writePtr_mono h hu]; exact he
        · simp at he
      · simp at he
    · simp at he
  case fieldAddr t x f =>
    split at he
    · rename_i fs hu
      split at he
      · rename_i fd hf
        split at he
        · simp at he
        · rename_i hc
          simp only [not_or, Bool.not_eq_false] at hc
          try simp only [hu, hf]
          rw [if_neg (by
            simp only [not_or, Bool.not_eq_false]
            exact ⟨hc.1, hc.2.1, ptrOk_mono h hc.2.2⟩)]
          exact he
      · simp at he
    · simp at he
  case indexAddr t x i =>
    split at he
    · rename_i k n hi
      split at he
      · rename_i m el ob off hu hx
        cases hl : look ob with
        | none => simp [hl] at he
        | some q => rw [h ob q hl]; rw [hl] at he; exact he
      · exact he
      · rename_i el ob ver hu hx
        cases hl : look ob with
        | none => simp [hl] at he
        | some q => rw [h ob q hl]; rw [hl] at he; exact he
      · simp at he
    · simp at he
  case index t x i =>
    split at he
    · rename_i m el cs k n hu hx hi
      split at he
      · rename_i hc
        rw [if_pos hc]
        split at he
        · rename_i xs hd; simp only [decN_mono (purs_le h cs) hd]; exact he
        · simp at he
      · simp at he
    · exact he
    · simp at he
  case buildSlice t n ps =>
    split at he
    · rename_i el hel
      try simp only [hel]
      split at he
      · rename_i zs hz
        try simp only [hz]
        split at he
        · rename_i z hd
          try simp only [hd]
          split at he
          · rename_i hc
            rw [if_pos hc]
            split at he
            · rename_i xs hx
              simp only [setParts_mono h hx]
              split at he
              · rename_i ho'; first | exact he | (simp only [ho']; exact he)
              · rename_i ho'
                try simp only [ho']
                split at he
                · rename_i h1; rw [hs h1]; exact he
                · simp at he
            · simp at he
          · simp at he
        · simp at he
      · simp at he
    · simp at he
  case makeSlice t x y =>
    split at he
    · rename_i el n c h1 h2 h3
      split at he
      · simp at he
      · rename_i h4; rw [hs h4]; exact he
    · simp at he
  case slice t x lo hi mx =>
    split at he
    · rename_i l r hmx hl hr
      try simp only [hl, hr]
      split at he
      · rename_i el hel
        try simp only [hel]
        split at he
        · rename_i xs hx
          have : asSl look' (sch P el) (ρ x) = some xs := decTy_mono h hx
          simp only [this]; exact he
        · simp at he
      · rename_i hel
        try simp only [hel]
        exact he
    · simp at he
  case call c =>
    cases hc : c.callee <;> simp only [hc] at he ⊢ <;> try (first | exact he | (simp at he; done))
    case builtin b =>
      cases b <;> simp only [] at he ⊢ <;> try (first | exact he | (simp at he; done))
      case len =>
        split at he
        · rename_i t x ht hx
          split at he
          · exact he
          · rename_i el hu
            split at he
            · rename_i n hl; simp only [lenAV_mono h hl]; exact he
            · simp at he
          · exact he
          · simp at he
        · simp at he
      case append =>
        split at he
        · rename_i t t' x y h1 h2 h3 h4
          split at he
          · rename_i el el' hel hel'
            split at he
            · rename_i hc'
              rw [if_pos hc']
              split at he
              · rename_i ys hy
                have : asSl look' (sch P el) (ρ y) = some ys := decTy_mono h hy
                simp only [this]
                unfold appF at he ⊢
                split at he
                · split at he
                  · rename_i hn; rw [hs hn]; exact he
                  · simp at he
                · exact he
                · rename_i ob ver hx
                  cases hl : look ob with
                  | none => simp [hl] at he
                  | some q => rw [h ob q hl]; rw [hl] at he; exact he
                · simp at he
              · simp at he
            · simp at he
          · simp at he
        · simp at he
    case value f =>
      split at he
      · rename_i g hg
        split at he
        · rename_i en hen
          try simp only [hen]
          split at he
          · rename_i x hx
            simp only [decs_mono h hx]
            split at he
            · rename_i ho'; first | exact he | (simp only [ho']; exact he)
            · rename_i ho'
              try simp only [ho']
              unfold callOwn at he ⊢
              split at he
              · rename_i h1 h2
                rw [h1, hs h2]; exact he
              · simp at he
          · simp at he
        · simp at he
      · simp at he

end
end Go.Pi
end

section
namespace Go.Pi
open Go.RowKit
set_option linter.unusedSimpArgs false
set_option linter.unusedVariables false

section
variable {P : Program} {E : Env} {own : List Nat} {path rid : Nat} {ops : Array Oper}

theorem befores_prefix : ∀ (r : List Oper) (acc : List (List Nat)), ∃ t, befores r acc = acc ++ t
  | [], acc => ⟨[], by simp [befores]⟩
  | o :: r, acc => by
    obtain ⟨t, ht⟩ := befores_prefix r (acc ++ [o.after.toList.flatMap fun e => match Region.binds .any e with
      | true => e.on :: acc.getD e.on []
      | false => []])
    exact ⟨_ :: t, ht.trans (by rw [List.append_assoc]; rfl)⟩

theorem getD_prefix {acc t : List (List Nat)} {k m : Nat} (h : m ∈ acc.getD k []) : m ∈ (acc ++ t).getD k [] := by
  rcases Nat.lt_or_ge k acc.length with h1 | h1
  · simp only [List.getD_eq_getElem?_getD] at h ⊢
    rw [List.getElem?_append_left h1]; exact h
  · simp [List.getD_eq_getElem?_getD, List.getElem?_eq_none h1] at h

theorem befores_at : ∀ (r : List Oper) (acc : List (List Nat)) (j : Nat) (o : Oper) (m : Nat), r[j]? = some o → m ∈ (befores r acc).getD (acc.length + j) [] →
    ∃ e ∈ o.after.toList, Region.binds .any e = true ∧ (m = e.on ∨ m ∈ (befores r acc).getD e.on [])
  | [], acc, j, o, m, h, _ => by simp at h
  | o' :: r, acc, 0, o, m, h, hm => by
    simp at h; subst h
    obtain ⟨t, ht⟩ := befores_prefix r (acc ++ [o'.after.toList.flatMap fun e => match Region.binds .any e with
      | true => e.on :: acc.getD e.on []
      | false => []])
    have hR : befores (o' :: r) acc = (acc ++ [o'.after.toList.flatMap fun e => match Region.binds .any e with
      | true => e.on :: acc.getD e.on []
      | false => []]) ++ t := ht
    rw [hR] at hm ⊢
    have h1 : ((acc ++ [o'.after.toList.flatMap fun e => match Region.binds .any e with
      | true => e.on :: acc.getD e.on []
      | false => []]) ++ t).getD (acc.length + 0) [] = o'.after.toList.flatMap fun e => match Region.binds .any e with
      | true => e.on :: acc.getD e.on []
      | false => [] := by
      simp [List.getD_eq_getElem?_getD, List.getElem?_append]
    rw [h1] at hm
    obtain ⟨e, he, hme⟩ := List.mem_flatMap.1 hm
    refine ⟨e, he, ?_⟩
    cases hb : Region.binds .any e with
    | false => rw [hb] at hme; simp at hme
    | true =>
      rw [hb] at hme
      refine ⟨rfl, ?_⟩
      rcases List.mem_cons.1 hme with h2 | h2
      · exact .inl h2
      · exact .inr (getD_prefix (getD_prefix h2))
  | o' :: r, acc, j + 1, o, m, h, hm => by
    have := befores_at r (acc ++ [o'.after.toList.flatMap fun e => match Region.binds .any e with
      | true => e.on :: acc.getD e.on []
      | false => []]) j o m (by simpa using h) (by
        have e1 : (acc ++ [o'.after.toList.flatMap fun e => match Region.binds .any e with
          | true => e.on :: acc.getD e.on []
          | false => []]).length + j = acc.length + (j + 1) := by simp; omega
        rw [e1]; exact hm)
    exact this

/-- What is surely done before. -/
abbrev bef (ops : Array Oper) : List (List Nat) := befores ops.toList []

/-- A set of operations that holds what binds its members. -/
def Shut (ops : Array Oper) (L : Nat → Bool) : Prop := ∀ j o, L j = true → ops[j]? = some o → ∀ e ∈ o.after, Region.binds .any e = true → L e.on = true

structure Ordered (ops : Array Oper) : Prop where
  lt : ∀ j o, ops[j]? = some o → ∀ e ∈ o.after, Region.binds .any e = true → e.on < j
  free : ∀ i j oi oj, i < j → ops[i]? = some oi → ops[j]? = some oj → i ∈ (bef ops).getD j [] ∨ (freeOf (cls oi) (cls oj) = true ∧ oi.apart ops oj = true)

theorem ordered_of (h : drawOk ops = true) : Ordered ops := by
  unfold drawOk at h
  simp only [List.all_eq_true, List.mem_range] at h
  refine ⟨fun j o ho e he hb => ?_, fun i j oi oj hij hi hj => ?_⟩
  · have hlt : j < ops.toList.length := by simpa using (Array.getElem?_eq_some_iff.1 ho).1
    have h1 := h j hlt
    have h2 : ops.toList[j]? = some o := by simpa using ho
    rw [h2] at h1
    simp only [Bool.and_eq_true] at h1
    have h3 := List.all_eq_true.1 h1.1 e (by simpa using he)
    rw [hb] at h3
    simpa using h3
  · have hlt : j < ops.toList.length := by simpa using (Array.getElem?_eq_some_iff.1 hj).1
    have h1 := h j hlt
    have h2 : ops.toList[j]? = some oj := by simpa using hj
    rw [h2] at h1
    simp only [Bool.and_eq_true] at h1
    have h3 := List.all_eq_true.1 h1.2 i (List.mem_range.2 hij)
    have h4 : ops.toList[i]? = some oi := by simpa using hi
    rw [h4] at h3
    simp only [Bool.or_eq_true, Bool.and_eq_true] at h3
    rcases h3 with h3 | h3
    · exact .inl (by simpa using h3)
    · exact .inr h3

theorem shut_bef {L : Nat → Bool} (hS : Shut ops L) (hO : Ordered ops) : ∀ (j : Nat) (o : Oper), ops[j]? = some o → (∀ e ∈ o.after, Region.binds .any e = true → L e.on = true) → (∀ m, L m = true → m < ops.size) → ∀ m ∈ (bef ops).getD j [], L m = true := by
  intro j
  induction j using Nat.strongRecOn with
  | _ j ih =>
    intro o ho hall hsz m hm
    obtain ⟨e, he, hb, hme⟩ := befores_at ops.toList [] j o m (by simpa using ho) (by simpa using hm)
    have he' : e ∈ o.after := by simpa using he
    have hLe := hall e he' hb
    rcases hme with rfl | hme
    · exact hLe
    · have hlt := hsz _ hLe
      have hoe : ops[e.on]? = some ops[e.on] := Array.getElem?_eq_getElem hlt
      exact ih e.on (hO.lt j o ho e he' hb) _ hoe (fun e' he' hb' => hS e.on _ hLe hoe e' he' hb') hsz m hme

/-! ### canonical states -/
/-- The effects of the listed operations, in the order of the text. -/
def stD (ops : Array Oper) (es : Nat → Eff) (L : Nat → Bool) (σ : St) : Nat → St
  | 0 => σ
  | m + 1 => match ops[m]? with
    | none => stD ops es L σ m
    | some o => match L m with
      | true => appEff o.dst (stD ops es L σ m) (es m).val (es m).upd
      | false => stD ops es L σ m

def skipE : Eff := ⟨true, true, none, .skip, []⟩

/-- An operation's effect, its guard looked at. -/
def effD (P : Program) (E : Env) (own : List Nat) (path rid : Nat) (ops : Array Oper) (σ : St) (i : Nat) (o : Oper) : Option Eff :=
  match o.guard with
  | none => opF P E own (siteOf path rid i) (ev σ.tm) (lkD path rid ops.size (bef ops) i σ.sto) o
  | some (j, want) => match (ops[j]?).bind (·.dst) with
    | none => none
    | some d => match get σ.tm d with
      | .bool b => if b = want then opF P E own (siteOf path rid i) (ev σ.tm) (lkD path rid ops.size (bef ops) i σ.sto) o else some skipE
      | .skip => some skipE
      | _ => none

theorem goD_cons {o : Oper} {r : List Oper} {i : Nat} {rm : Prop → Prop} {σ : St} {k : St → Prop} (h : goD P E own path rid ops.size (bef ops) ops (o :: r) i rm σ k) :
    ∃ e, effD P E own path rid ops σ i o = some e ∧ e.chk = true ∧ preH e.pre ∧ goD P E own path rid ops.size (bef ops) ops r (i + 1) (fun X => rm (br e.room X True)) (appEff o.dst σ e.val e.upd) k := by
  have one : ∀ {σ' : St}, σ' = σ → (match opF P E own (siteOf path rid i) (ev σ'.tm) (lkD path rid ops.size (bef ops) i σ.sto) o with
      | some e => br e.chk (withPre e.pre (goD P E own path rid ops.size (bef ops) ops r (i + 1) (fun X => rm (br e.room X True)) (appEff o.dst σ' e.val e.upd) k)) False
      | none => False) → ∃ e, opF P E own (siteOf path rid i) (ev σ.tm) (lkD path rid ops.size (bef ops) i σ.sto) o = some e ∧ e.chk = true ∧ preH e.pre ∧ goD P E own path rid ops.size (bef ops) ops r (i + 1) (fun X => rm (br e.room X True)) (appEff o.dst σ e.val e.upd) k := by
    intro σ' hσ h
    subst hσ
    split at h
    · rename_i e he
      obtain ⟨hc, h⟩ := br_no h
      obtain ⟨hp, h⟩ := withPre_iff.1 h
      exact ⟨e, he, hc, hp, h⟩
    · exact h.elim
  unfold goD at h
  unfold effD
  cases hg : o.guard with
  | none =>
    rw [hg] at h
    exact one rfl h
  | some gw =>
    obtain ⟨j, want⟩ := gw
    rw [hg] at h
    simp only at h ⊢
    split at h
    · exact h.elim
    · rename_i d hd
      simp only [hd]
      split at h
      · rename_i b hb
        simp only [hb]
        have hset : ∀ c, b = c → ({ σ with tm := σ.tm.set d (.bool c) } : St) = σ := fun c e => by rw [set_same (by rw [hb, e])]
        cases want with
        | true =>
          simp only at h
          cases b with
          | true =>
            have h := br_true rfl h
            simp only [if_true]
            exact one (hset true rfl) h
          | false =>
            have h := br_false rfl h
            rw [hset false rfl] at h
            exact ⟨skipE, by simp, rfl, trivial, h⟩
        | false =>
          simp only at h
          cases b with
          | true =>
            have h := br_true rfl h
            rw [hset true rfl] at h
            exact ⟨skipE, by simp, rfl, trivial, h⟩
          | false =>
            have h := br_false rfl h
            simp only [if_true]
            exact one (hset false rfl) h
      · rename_i hb
        simp only [hb]
        exact ⟨skipE, rfl, rfl, trivial, h⟩
      · exact h.elim

theorem stD_congr {es es' : Nat → Eff} {L L' : Nat → Bool} {σ : St} : ∀ (m : Nat), (∀ i, i < m → es i = es' i ∧ L i = L' i) → stD ops es L σ m = stD ops es' L' σ m
  | 0, _ => rfl
  | m + 1, h => by
    have ih := stD_congr (σ := σ) m fun i hi => h i (by omega)
    obtain ⟨h1, h2⟩ := h m (by omega)
    simp only [stD, ih, h1, h2]

/-- The effects, all of them. -/
theorem goD_all {σ0 : St} {k : St → Prop} : ∀ (r : List Oper) (i : Nat) (rm : Prop → Prop) (es0 : Nat → Eff), r = ops.toList.drop i → i ≤ ops.size → goD P E own path rid ops.size (bef ops) ops r i rm (stD ops es0 (fun _ => true) σ0 i) k → (∀ X Y : Prop, (X ↔ Y) → (rm X ↔ rm Y)) →
    ∃ es : Nat → Eff, (∀ m, m < i → es m = es0 m) ∧ (∀ m o, i ≤ m → ops[m]? = some o → effD P E own path rid ops (stD ops es (fun _ => true) σ0 m) m o = some (es m) ∧ (es m).chk = true ∧ preH (es m).pre) ∧
      ((∀ m, i ≤ m → m < ops.size → (es m).room = true) → rm (k (stD ops es (fun _ => true) σ0 ops.size)))
  | [], i, rm, es0, hr, hle, h, hrm => by
    have hi : i = ops.size := by
      have : (ops.toList.drop i).length = 0 := by rw [← hr]; rfl
      simp at this; omega
    subst hi
    refine ⟨es0, fun _ _ => rfl, fun m o hm ho => ?_, fun _ => h⟩
    have := (Array.getElem?_eq_some_iff.1 ho).1
    omega
  | o :: r, i, rm, es0, hr, hle, h, hrm => by
    have hi : ops[i]? = some o := by
      have : (ops.toList.drop i)[0]? = some o := by rw [← hr]; rfl
      simpa using this
    have hr' : r = ops.toList.drop (i + 1) := by
      have : (ops.toList.drop i).drop 1 = r := by rw [← hr]; rfl
      rw [← this, List.drop_drop]
    have hlt := (Array.getElem?_eq_some_iff.1 hi).1
    obtain ⟨e, he, hc, hp, h⟩ := goD_cons h
    let es1 : Nat → Eff := fun m => if m = i then e else es0 m
    have hst : stD ops es1 (fun _ => true) σ0 i = stD ops es0 (fun _ => true) σ0 i := stD_congr i fun m hm => ⟨by simp [es1, Nat.ne_of_lt hm], rfl⟩
    have hst1 : stD ops es1 (fun _ => true) σ0 (i + 1) = appEff o.dst (stD ops es0 (fun _ => true) σ0 i) e.val e.upd := by
      simp only [stD, hi, hst]
      simp [es1]
    rw [← hst1] at h
    obtain ⟨es, h1, h2, h3⟩ := goD_all r (i + 1) _ es1 hr' hlt h (fun X Y hXY => hrm _ _ (by
      cases e.room with
      | true => exact hXY
      | false => exact Iff.rfl))
    have hei : es i = e := by rw [h1 i (by omega)]; simp [es1]
    refine ⟨es, fun m hm => by rw [h1 m (by omega)]; simp [es1, Nat.ne_of_lt hm], fun m o' hm ho' => ?_, fun hroom => ?_⟩
    · by_cases hmi : m = i
      · subst hmi
        rw [hi] at ho'
        simp at ho'; subst ho'
        have : stD ops es (fun _ => true) σ0 m = stD ops es0 (fun _ => true) σ0 m := stD_congr m fun q hq => ⟨by rw [h1 q (by omega)]; simp [es1, Nat.ne_of_lt hq], rfl⟩
        rw [this, hei]
        exact ⟨he, hc, hp⟩
      · exact h2 m o' (by omega) ho'
    · have h4 := h3 fun m hm hm2 => hroom m (by omega) hm2
      have h5 := hroom i (Nat.le_refl _) hlt
      rw [hei] at h5
      rw [h5] at h4
      exact h4

end
end Go.Pi
end

section
namespace Go.Pi
open Go.RowKit
set_option linter.unusedSimpArgs false
set_option linter.unusedVariables false

section
variable {P : Program} {E : Env} {own : List Nat} {path rid : Nat} {ops : Array Oper}

theorem eff_tm_ne {dst : Option Tmp} {σ : St} {v : AV} {upd : List (Nat × Ob)} {t : Nat} (h : dst ≠ some t) : get (appEff dst σ v upd).tm t = get σ.tm t := by
  cases dst with
  | none => rfl
  | some d =>
    show get (σ.tm.set d v) t = _
    rw [get_set, if_neg (fun e => h (by rw [e.1]))]

theorem eff_tm_same {dst : Option Tmp} {σ σ' : St} {v : AV} {upd : List (Nat × Ob)} {t : Nat} (hl : σ.tm.length = σ'.tm.length) (h : get σ.tm t = get σ'.tm t) : get (appEff dst σ v upd).tm t = get (appEff dst σ' v upd).tm t := by
  cases dst with
  | none => exact h
  | some d =>
    show get (σ.tm.set d v) t = get (σ'.tm.set d v) t
    rw [get_set, get_set, hl, h]

theorem eff_len {dst : Option Tmp} {σ : St} {v : AV} {upd : List (Nat × Ob)} : (appEff dst σ v upd).tm.length = σ.tm.length := by cases dst <;> simp [appEff]
theorem eff_outs {dst : Option Tmp} {σ : St} {v : AV} {upd : List (Nat × Ob)} : (appEff dst σ v upd).outs = σ.outs := rfl

theorem stD_len {es : Nat → Eff} {L : Nat → Bool} {σ : St} : ∀ m, (stD ops es L σ m).tm.length = σ.tm.length
  | 0 => rfl
  | m + 1 => by
    simp only [stD]
    split
    · exact stD_len m
    · split
      · rw [eff_len]; exact stD_len m
      · exact stD_len m

theorem stD_outs {es : Nat → Eff} {L : Nat → Bool} {σ : St} : ∀ m, (stD ops es L σ m).outs = σ.outs
  | 0 => rfl
  | m + 1 => by
    simp only [stD]
    split
    · exact stD_outs m
    · split
      · exact stD_outs m
      · exact stD_outs m

theorem stD_pres {es : Nat → Eff} {L : Nat → Bool} {σ : St} : ∀ m, Pres σ (stD ops es L σ m)
  | 0 => Pres.refl σ
  | m + 1 => by
    simp only [stD]
    split
    · exact stD_pres m
    · split
      · exact (stD_pres m).trans (Pres.eff _ _ _ _)
      · exact stD_pres m

/-- What an effect may turn. -/
def UpdD (path rid : Nat) (m k : Nat) (upd : List (Nat × Ob)) : Prop := upd = [] ∨ (k ≠ 0 ∧ ∃ p ob, upd = [(p, ob)] ∧ (k ≠ 3 → p = siteOf path rid m))

theorem effD_upd {σ : St} {i : Nat} {o : Oper} {e : Eff} (h : effD P E own path rid ops σ i o = some e) : UpdD path rid i (cls o) e.upd := by
  have of : opF P E own (siteOf path rid i) (ev σ.tm) (lkD path rid ops.size (bef ops) i σ.sto) o = some e → UpdD path rid i (cls o) e.upd := fun h => by
    rcases opF_upd h with h1 | ⟨h1, p, ob, h2, h3⟩
    · exact .inl h1
    · exact .inr ⟨h1, p, ob, h2, fun hk => (h3 hk).1⟩
  unfold effD at h
  split at h
  · exact of h
  · split at h
    · simp at h
    · split at h
      · split at h
        · exact of h
        · obtain rfl := Option.some.inj h; exact .inl rfl
      · obtain rfl := Option.some.inj h; exact .inl rfl
      · simp at h

theorem lk_eff {dst : Option Tmp} {σ : St} {v : AV} {upd : List (Nat × Ob)} {p : Nat} (h : ∀ q ob, upd = [(q, ob)] → p ≠ q) (h1 : upd = [] ∨ ∃ q ob, upd = [(q, ob)]) : lk p (appEff dst σ v upd).sto = lk p σ.sto := by
  rcases h1 with rfl | ⟨q, ob, rfl⟩
  · rfl
  · show lk p (ups q ob σ.sto) = _
    rw [lk_ups, if_neg (h q ob rfl)]

theorem lk_eff_same {dst : Option Tmp} {σ σ' : St} {v : AV} {upd : List (Nat × Ob)} {p : Nat} (h : lk p σ.sto = lk p σ'.sto) (h1 : upd = [] ∨ ∃ q ob, upd = [(q, ob)]) : lk p (appEff dst σ v upd).sto = lk p (appEff dst σ' v upd).sto := by
  rcases h1 with rfl | ⟨q, ob, rfl⟩
  · exact h
  · show lk p (ups q ob σ.sto) = lk p (ups q ob σ'.sto)
    rw [lk_ups, lk_ups, h]

theorem UpdD.shape {path rid m k : Nat} {upd : List (Nat × Ob)} (h : UpdD path rid m k upd) : upd = [] ∨ ∃ q ob, upd = [(q, ob)] := by
  rcases h with h | ⟨_, p, ob, h, _⟩
  · exact .inl h
  · exact .inr ⟨p, ob, h⟩

theorem site_inj {path rid i j : Nat} (h : siteOf path rid i = siteOf path rid j) : i = j := by unfold siteOf at h; omega

theorem free_cases {a b : Nat} (h : freeOf a b = true) : a = 0 ∨ b = 0 ∨ (a ≠ 3 ∧ b ≠ 3) := by
  simp [freeOf] at h
  omega

/-- What an operation that is ready sees is what it sees in the order of the text. -/
structure Ready (ops : Array Oper) (L : Nat → Bool) (i : Nat) (oi : Oper) : Prop where
  at_ : ops[i]? = some oi
  out : L i = false
  bef : ∀ m ∈ (Pi.bef ops).getD i [], L m = true
  shut : ∀ j, L j = true → ∀ m ∈ (Pi.bef ops).getD j [], L m = true

theorem Ready.before {L : Nat → Bool} {i m : Nat} {oi om : Oper} (h : Ready ops L i oi) (hO : Ordered ops) (hm : ops[m]? = some om) (hlt : m < i) (hL : L m = false) : freeOf (cls om) (cls oi) = true ∧ om.apart ops oi = true := by
  rcases hO.free m i om oi hlt hm h.at_ with h1 | h1
  · rw [h.bef m h1] at hL; simp at hL
  · exact h1

theorem Ready.behind {L : Nat → Bool} {i m : Nat} {oi om : Oper} (h : Ready ops L i oi) (hO : Ordered ops) (hm : ops[m]? = some om) (hlt : i < m) (hL : L m = true) : freeOf (cls oi) (cls om) = true ∧ oi.apart ops om = true := by
  rcases hO.free i m oi om hlt h.at_ hm with h1 | h1
  · have := h.shut m hL i h1
    rw [h.out] at this; simp at this
  · exact h1

theorem ready_tm {es : Nat → Eff} {L : Nat → Bool} {σ : St} {i : Nat} {oi : Oper} (h : Ready ops L i oi) (hO : Ordered ops) {t : Nat} (ht : t ∈ oi.looksAt ops) : get (stD ops es L σ ops.size).tm t = get (stD ops es (fun _ => true) σ i).tm t := by
  have hlt := (Array.getElem?_eq_some_iff.1 h.at_).1
  have h1 : ∀ m, m ≤ i → get (stD ops es L σ m).tm t = get (stD ops es (fun _ => true) σ m).tm t := by
    intro m
    induction m with
    | zero => intro _; rfl
    | succ m ih =>
      intro hm
      have ih := ih (by omega)
      cases ho : ops[m]? with
      | none => simp only [stD, ho]; exact ih
      | some om =>
        simp only [stD, ho]
        cases hL : L m with
        | true => exact eff_tm_same (by rw [stD_len, stD_len]) ih
        | false =>
          obtain ⟨_, hap⟩ := h.before hO ho (by omega) hL
          obtain ⟨a1, a2, a3⟩ := Oper.apart_spec hap
          rw [eff_tm_ne (fun e => a1 t e ht)]
          exact ih
  have h2 : ∀ m, i ≤ m → m ≤ ops.size → get (stD ops es L σ m).tm t = get (stD ops es (fun _ => true) σ i).tm t := by
    intro m
    induction m with
    | zero => intro hm _; have : i = 0 := by omega
              subst this; rfl
    | succ m ih =>
      intro hm hn
      by_cases he : i = m + 1
      · subst he; exact h1 _ (Nat.le_refl _)
      · have ih := ih (by omega) (by omega)
        cases ho : ops[m]? with
        | none => simp only [stD, ho]; exact ih
        | some om =>
          simp only [stD, ho]
          cases hL : L m with
          | false => exact ih
          | true =>
            have hne : i ≠ m := fun e => by rw [← e, h.out] at hL; simp at hL
            obtain ⟨_, hap⟩ := h.behind hO ho (by omega) hL
            obtain ⟨a1, a2, a3⟩ := Oper.apart_spec hap
            rw [eff_tm_ne (fun e => a3 t e ht)]
            exact ih
  exact h2 _ (by omega) (Nat.le_refl _)

theorem hidden_false {n j p m : Nat} {b : List (List Nat)} (h : hidden path rid n b j p = false) (hm : m < n) (hp : p = siteOf path rid m) (hne : m ≠ j) : m ∈ b.getD j [] := by
  simp only [hidden, List.any_eq_false, List.mem_range] at h
  have := h m hm
  simp only [hp, beq_self_eq_true, Bool.true_and, Bool.and_eq_true, bne_iff_ne, ne_eq, hne, not_false_eq_true, true_and, Bool.not_eq_true', Bool.not_eq_false] at this
  simpa using this

theorem ready_lk {es : Nat → Eff} {L : Nat → Bool} {σ : St} {i : Nat} {oi : Oper} (h : Ready ops L i oi) (hO : Ordered ops) (hU : ∀ m om, ops[m]? = some om → UpdD path rid m (cls om) (es m).upd) (hc : cls oi ≠ 0) {p : Nat} (hp : hidden path rid ops.size (Pi.bef ops) i p = false) :
    lk p (stD ops es L σ ops.size).sto = lk p (stD ops es (fun _ => true) σ i).sto := by
  have hlt := (Array.getElem?_eq_some_iff.1 h.at_).1
  -- an operation that is free of i turns nothing that i sees
  have key : ∀ m om, ops[m]? = some om → m ≠ i → (freeOf (cls om) (cls oi) = true ∨ freeOf (cls oi) (cls om) = true) → m ∉ (Pi.bef ops).getD i [] → ∀ q ob, (es m).upd = [(q, ob)] → p ≠ q := by
    intro m om ho hne hf hnb q ob hu hpq
    have hm := (Array.getElem?_eq_some_iff.1 ho).1
    rcases hU m om ho with h1 | ⟨h1, q', ob', h2, h3⟩
    · rw [hu] at h1; simp at h1
    · rw [hu] at h2
      simp at h2
      obtain ⟨rfl, rfl⟩ := h2
      have hk : cls om ≠ 3 := by
        rcases hf with hf | hf
        · rcases free_cases hf with h4 | h4 | h4
          · exact (h1 h4).elim
          · exact (hc h4).elim
          · exact h4.1
        · rcases free_cases hf with h4 | h4 | h4
          · exact (hc h4).elim
          · exact (h1 h4).elim
          · exact h4.2
      exact hnb (hidden_false hp hm (hpq.trans (h3 hk)) hne)
  have h1 : ∀ m, m ≤ i → lk p (stD ops es L σ m).sto = lk p (stD ops es (fun _ => true) σ m).sto := by
    intro m
    induction m with
    | zero => intro _; rfl
    | succ m ih =>
      intro hm
      have ih := ih (by omega)
      cases ho : ops[m]? with
      | none => simp only [stD, ho]; exact ih
      | some om =>
        simp only [stD, ho]
        cases hL : L m with
        | true => exact lk_eff_same ih (hU m om ho).shape
        | false =>
          obtain ⟨hf, _⟩ := h.before hO ho (by omega) hL
          rw [lk_eff (key m om ho (by omega) (.inl hf) fun hb => by rw [h.bef m hb] at hL; simp at hL) (hU m om ho).shape]
          exact ih
  have h2 : ∀ m, i ≤ m → m ≤ ops.size → lk p (stD ops es L σ m).sto = lk p (stD ops es (fun _ => true) σ i).sto := by
    intro m
    induction m with
    | zero => intro hm _; have : i = 0 := by omega
              subst this; rfl
    | succ m ih =>
      intro hm hn
      by_cases he : i = m + 1
      · subst he; exact h1 _ (Nat.le_refl _)
      · have ih := ih (by omega) (by omega)
        cases ho : ops[m]? with
        | none => simp only [stD, ho]; exact ih
        | some om =>
          simp only [stD, ho]
          cases hL : L m with
          | false => exact ih
          | true =>
            have hne : i ≠ m := fun e => by rw [← e, h.out] at hL; simp at hL
            obtain ⟨hf, _⟩ := h.behind hO ho (by omega) hL
            have hnb : m ∉ (Pi.bef ops).getD i [] := fun hb => by
              -- what is before i has a smaller number
              have hsm : ∀ (j : Nat) (oj : Oper), ops[j]? = some oj → ∀ q ∈ (Pi.bef ops).getD j [], q < j := by
                intro j
                induction j using Nat.strongRecOn with
                | _ j ihj =>
                  intro oj hoj q hq
                  obtain ⟨e, he, hbb, hqe⟩ := befores_at ops.toList [] j oj q (by simpa using hoj) (by simpa using hq)
                  have he' : e ∈ oj.after := by simpa using he
                  have hl := hO.lt j oj hoj e he' hbb
                  rcases hqe with rfl | hqe
                  · exact hl
                  · have hsz : e.on < ops.size := Nat.lt_trans hl (Array.getElem?_eq_some_iff.1 hoj).1
                    exact Nat.lt_trans (ihj e.on hl _ (Array.getElem?_eq_getElem hsz) q hqe) hl
              have := hsm i oi h.at_ m hb
              omega
            rw [lk_eff (key m om ho (fun e => hne e.symm) (.inr hf) hnb) (hU m om ho).shape]
            exact ih
  exact h2 _ (by omega) (Nat.le_refl _)

end
end Go.Pi
end
