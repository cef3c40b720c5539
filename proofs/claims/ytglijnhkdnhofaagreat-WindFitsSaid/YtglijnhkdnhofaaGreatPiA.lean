/- Typed data in the machine's memory, an evaluator of loaded code over it, and its proof, part 1. -/
import Derived.Calls
import Derived.Orders
import Derived.KernelRfl
import Derived.Below
import Derived.Maps.RangeRun
import Derived.Laws.Tables
import Derived.Laws.Cells
import Derived.Laws.CopyRow
import Derived.Laws.CopyOwn

section
namespace Go.Pi
set_option linter.unusedSimpArgs false
set_option linter.unusedVariables false

noncomputable section
/-! ### typed data -/
inductive Sch where
  | unit | int (k : IntKind) | bool | str | sl (s : Sch) | pair (a b : Sch)
  deriving DecidableEq

@[reducible] def Sch.D : Sch → Type
  | .unit => Unit
  | .int _ => Int
  | .bool => Bool
  | .str => ByteArray
  | .sl s => List s.D
  | .pair a b => a.D × b.D

def Sch.size : Sch → Nat
  | .unit => 0
  | .pair a b => a.size + b.size
  | _ => 1

def Sch.dflt : (s : Sch) → s.D
  | .unit => ()
  | .int _ => (0 : Int)
  | .bool => false
  | .str => (⟨#[]⟩ : ByteArray)
  | .sl _ => []
  | .pair a b => (a.dflt, b.dflt)

/-- Kinds of data that hold no slices. -/
def Sch.flat : Sch → Bool
  | .sl _ => false
  | .pair a b => a.flat && b.flat
  | _ => true

inductive AV where
  | undef | skip
  | int (k : IntKind) (n : Int) | bool (b : Bool) | str (b : ByteArray)
  | nils
  | sl (x : Bool) (s : Sch) (xs : List s.D)
  | ref (o ver : Nat)
  | ptr (o off : Nat)
  | ptre (o ver i off : Nat)
  | pel (s : Sch) (xs : List s.D) (i off : Nat)
  | pix (o base : Nat) (s : Sch) (m i off : Nat)
  | cst (v : Value)
  | fn (f : FuncId) (cap : List Nat)
  | clo (f : FuncId) (s : Sch) (c : s.D)
  | yld (o : Nat)
  | hnd (m : Bool) (o : Nat)
  | agg (cs : List AV)
  | tup (vs : List AV)
  | vw (o ver lo : Nat)

inductive Mode where
  | fixed (m : Nat) | uniq | grow
  deriving DecidableEq
/-- The length of an array. -/
def Mode.fix : Mode → Option Nat
  | .fixed m => some m
  | _ => none

inductive Ob where
  | cells (fz : Bool) (cs : List AV)
  | arr (m : Mode) (ver : Nat) (s : Sch) (xs : List s.D)
  | map (ver : Nat) (ka va : Bool) (ks vs : Sch) (xs : List (ks.D × vs.D))
  | it (mo ver : Nat) (ks vs : Sch) (left cur : List (ks.D × vs.D))

inductive Ex where
  | normal | exit (i : Nat) | ret
  deriving DecidableEq
/-- How a loop over a function stands. -/
inductive LSt where
  | ready | busy | done (e : Ex)
  deriving DecidableEq

/-- A function's slots: a tree by the bits of a slot's number. -/
inductive Tr where
  | nil
  | node (v : AV) (l r : Tr)
def Tr.val : Tr → AV
  | .nil => .undef
  | .node v _ _ => v
def Tr.left : Tr → Tr
  | .nil => .nil
  | .node _ l _ => l
def Tr.right : Tr → Tr
  | .nil => .nil
  | .node _ _ r => r
noncomputable def Tr.get (t : Tr) : Nat → AV := Tr.rec (motive := fun _ => Nat → AV) (fun _ => .undef)
  (fun v _ _ gl gr n => match Nat.beq n 0 with
    | true => v
    | false => match Nat.beq (Nat.mod n 2) 1 with
      | true => gl (Nat.div n 2)
      | false => gr (Nat.sub (Nat.div n 2) 1)) t
noncomputable def Tr.setF (f : Nat) : Tr → Nat → AV → Tr := Nat.rec (motive := fun _ => Tr → Nat → AV → Tr) (fun t _ x => .node x t.left t.right)
  (fun _ s t n x => match Nat.beq n 0 with
    | true => .node x t.left t.right
    | false => match Nat.beq (Nat.mod n 2) 1 with
      | true => .node t.val (s t.left (Nat.div n 2) x) t.right
      | false => .node t.val t.left (s t.right (Nat.sub (Nat.div n 2) 1) x)) f
def Tr.map (f : AV → AV) : Tr → Tr
  | .nil => .nil
  | .node v l r => .node (f v) (l.map f) (r.map f)
def Tr.all (p : AV → Bool) : Tr → Bool
  | .nil => true
  | .node v l r => p v && (l.all p && r.all p)
structure Tm where
  len : Nat
  t : Tr
def Tm.length (m : Tm) : Nat := m.len
noncomputable def Tm.set (m : Tm) (d : Nat) (v : AV) : Tm := ⟨m.len, match Nat.blt d m.len with
  | true => Tr.setF d m.t d v
  | false => m.t⟩
def Tm.none (n : Nat) : Tm := ⟨n, .nil⟩
def Tm.map (f : AV → AV) (m : Tm) : Tm := ⟨m.len, m.t.map f⟩
def Tm.all (p : AV → Bool) (m : Tm) : Bool := m.t.all p
noncomputable def Tm.put (m : Tm) : Nat → List AV → Tm
  | _, [] => m
  | i, v :: r => Tm.put (m.set i v) (i + 1) r
/-- The slots of a call: its arguments, then others. -/
noncomputable def Tm.args (l : List AV) (n : Nat) : Tm := Tm.put (Tm.none (l.length + (n - l.length))) 0 l
structure St where
  tm : Tm
  outs : List Tm
  sto : List (Nat × Ob)
  dt : List Nat
  dob : List Nat
  lps : List (Nat × LSt) := []

/-- Both ways of a test. -/
def br (b : Bool) (x y : Prop) : Prop := match b with
  | true => x
  | false => y

def Sch.enc : (s : Sch) → s.D → List AV
  | .unit, _ => []
  | .int k, n => [.int k n]
  | .bool, b => [.bool b]
  | .str, b => [.str b]
  | .sl s, xs => [.sl false s xs]
  | .pair a b, x => a.enc x.1 ++ b.enc x.2

def Sch.dec : (s : Sch) → List AV → Option (s.D × List AV)
  | .unit, l => some ((), l)
  | .int k, .int k' n :: r => if k = k' then some (n, r) else none
  | .bool, .bool b :: r => some (b, r)
  | .str, .str b :: r => some (b, r)
  | .sl s, .sl _ s' xs :: r => if h : s' = s then some (h ▸ xs, r) else none
  | .sl _, .nils :: r => some ([], r)
  | .pair a b, l =>
    match a.dec l with
    | none => none
    | some (x, r) => match b.dec r with
      | none => none
      | some (y, r') => some ((x, y), r')
  | _, _ => none

def lk (o : Nat) : List (Nat × Ob) → Option Ob
  | [] => none
  | (p, x) :: r => if p = o then some x else lk o r

def ups (o : Nat) (x : Ob) : List (Nat × Ob) → List (Nat × Ob)
  | [] => [(o, x)]
  | (p, y) :: r => if p = o then (p, x) :: r else (p, y) :: ups o x r

abbrev Ty := Bool × Sch

@[reducible] def tyS : List Ty → Sch
  | [] => .unit
  | [t] => t.2
  | t :: t' :: r => .pair t.2 (tyS (t' :: r))

/-- A slice under construction read as data (its object must be frozen). -/
def pur (look : Nat → Option Ob) : AV → AV
  | .ref o ver => match look o with
    | some (.arr .grow ver' s xs) => if ver = ver' then .sl false s xs else .undef
    | _ => .undef
  | v => v

/-- A pointer into a slice under construction that is frozen, as one into data. -/
def asPel (look : Nat → Option Ob) : AV → AV
  | .ptre o ver i off => match look o with
    | some (.arr .grow ver' s xs) => if ver = ver' then .pel s xs i off else .undef
    | _ => .undef
  | v => v

/-- Cells that are one value of a kind, no more. -/
def full (s : Sch) (cs : List AV) : Option s.D := match s.dec cs with
  | some (x, []) => some x
  | _ => none

def decTy (look : Nat → Option Ob) (t : Ty) (v : AV) : Option t.2.D :=
  match t.1, v with
  | true, .agg cs => full t.2 (cs.map (pur look))
  | false, .agg _ => none
  | false, .tup _ => none
  | false, v => full t.2 [pur look v]
  | _, _ => none

def decs (look : Nat → Option Ob) : (l : List Ty) → List AV → Option (tyS l).D
  | [], [] => some ()
  | [t], [v] => decTy look t v
  | t :: t' :: r, v :: vs => match decTy look t v, decs look (t' :: r) vs with
    | some x, some y => some (x, y)
    | _, _ => none
  | _, _ => none

def encTy (t : Ty) (x : t.2.D) : AV := match t.1 with
  | true => .agg (t.2.enc x)
  | false => (t.2.enc x).headD .undef

def encs : (l : List Ty) → (tyS l).D → List AV
  | [], _ => []
  | [t], x => [encTy t x]
  | t :: t' :: r, x => encTy t x.1 :: encs (t' :: r) x.2

def encRes (l : List Ty) (x : (tyS l).D) : AV := match encs l x with
  | [v] => v
  | vs => .tup vs

/-- A function that turns a slice of its caller in place, handed a plain function. -/
structure Ip where
  g : Nat
  s : Sch
  pre : List s.D → Prop
  fn : List s.D → List s.D

structure Entry where
  doms : List Ty
  cods : List Ty
  pre : (tyS doms).D → Prop
  fn : (tyS doms).D → (tyS cods).D
  uq : Bool := false
  total : Bool := false
  ex : Bool := false
  clo : Bool := false
  ip : Option Ip := none

abbrev Env := List (Nat × Entry)

/-- A result, as it is known to the caller: a slice with no room behind it, where the entry says so. -/
def encRx (en : Entry) (x : (tyS en.cods).D) : AV := match en.ex with
  | false => encRes en.cods x
  | true => match encRes en.cods x with
    | .sl _ s xs => .sl true s xs
    | v => v

/-- What a call asks for: nothing where the entry is total. -/
def preOf (en : Entry) (x : (tyS en.doms).D) : Option Prop := match en.total with
  | true => none
  | false => some (en.pre x)

def elk (f : Nat) : Env → Option Entry
  | [] => none
  | (g, x) :: r => if g = f then some x else elk f r

/-- A constant of one cell. -/
def ofV0 : Value → Option AV
  | .bool b => some (.bool b)
  | .int k n => some (.int k n)
  | .string s => some (.str s)
  | .slice none 0 0 => some .nils
  | .agg _ => none
  | .tuple _ => none
  | _ => some .undef

def ofVs : List Value → Option (List AV)
  | [] => some []
  | v :: r => match ofV0 v, ofVs r with
    | some a, some l => some (a :: l)
    | _, _ => none

def ofV : Value → AV
  | .agg cs => match ofVs cs.toList with
    | some l => .agg l
    | none => .undef
  | v => match ofV0 v with
    | some a => a
    | none => .undef

/-- The cells of a value that is known. -/
def AV.known : AV → Option (List AV)
  | .cst _ => none
  | .undef => none
  | .skip => none
  | .tup _ => none
  | .agg cs => some cs
  | v => some [v]

noncomputable def get (tm : Tm) (t : Nat) : AV := match Nat.blt t tm.len with
  | true => tm.t.get t
  | false => .undef
theorem blt_t {a b : Nat} (h : a < b) : Nat.blt a b = true := by rw [Nat.blt_eq]; exact h
theorem blt_f {a b : Nat} (h : ¬ a < b) : Nat.blt a b = false := by rw [← Bool.not_eq_true, Nat.blt_eq]; exact h
theorem get_ge {tm : Tm} {t : Nat} (h : tm.length ≤ t) : get tm t = .undef := by
  unfold get
  rw [blt_f (show ¬ t < tm.len by show ¬ t < tm.length; omega)]
theorem get_in {tm : Tm} {t : Nat} (h : t < tm.length) : get tm t = tm.t.get t := by
  unfold get
  rw [blt_t (show t < tm.len from h)]
theorem nbf {a b : Nat} (h : a ≠ b) : Nat.beq a b = false := by
  cases h' : Nat.beq a b with
  | false => rfl
  | true => exact absurd (Nat.eq_of_beq_eq_true h') h
theorem Tr.get_node (v : AV) (l r : Tr) (n : Nat) : (Tr.node v l r).get n = if n = 0 then v else if n % 2 = 1 then l.get (n / 2) else r.get (n / 2 - 1) := by
  show (match Nat.beq n 0 with | true => v | false => match Nat.beq (Nat.mod n 2) 1 with | true => l.get (Nat.div n 2) | false => r.get (Nat.sub (Nat.div n 2) 1)) = _
  by_cases h : n = 0
  · subst h; rfl
  · rw [if_neg h, show Nat.beq n 0 = false from nbf h]
    by_cases h2 : n % 2 = 1
    · rw [if_pos h2, show Nat.beq (Nat.mod n 2) 1 = true from Nat.beq_eq ▸ h2]; rfl
    · rw [if_neg h2, show Nat.beq (Nat.mod n 2) 1 = false from nbf h2]; rfl
theorem Tr.get_nil (n : Nat) : Tr.nil.get n = .undef := rfl
theorem Tr.get_val (t : Tr) : t.get 0 = t.val := by cases t <;> rfl
theorem Tr.get_eta (t : Tr) (n : Nat) : t.get n = (Tr.node t.val t.left t.right).get n := by
  cases t with
  | nil =>
    rw [Tr.get_node]
    show AV.undef = if n = 0 then .undef else if n % 2 = 1 then Tr.nil.get _ else Tr.nil.get _
    rw [Tr.get_nil, Tr.get_nil]
    split
    · rfl
    · split <;> rfl
  | node v l r => rfl
theorem Tr.get_setF (x : AV) : ∀ (f : Nat) (t : Tr) (n m : Nat), n ≤ f → (Tr.setF f t n x).get m = if m = n then x else t.get m
  | 0, t, n, m, h => by
    obtain rfl : n = 0 := by omega
    show (Tr.node x t.left t.right).get m = _
    rw [Tr.get_eta t m, Tr.get_node, Tr.get_node]
    split <;> rfl
  | f + 1, t, n, m, h => by
    show (match Nat.beq n 0 with | true => Tr.node x t.left t.right | false => match Nat.beq (Nat.mod n 2) 1 with | true => Tr.node t.val (Tr.setF f t.left (Nat.div n 2) x) t.right | false => Tr.node t.val t.left (Tr.setF f t.right (Nat.sub (Nat.div n 2) 1) x)).get m = _
    rw [Tr.get_eta t m]
    by_cases h0 : n = 0
    · subst h0
      show (Tr.node x t.left t.right).get m = _
      rw [Tr.get_node, Tr.get_node]
      split <;> rfl
    · rw [show Nat.beq n 0 = false from nbf h0]
      by_cases h2 : n % 2 = 1
      · rw [show Nat.beq (Nat.mod n 2) 1 = true from Nat.beq_eq ▸ h2]
        show (Tr.node t.val (Tr.setF f t.left (n / 2) x) t.right).get m = _
        rw [Tr.get_node, Tr.get_node, Tr.get_setF x f t.left (n / 2) (m / 2) (by omega)]
        by_cases hm : m = 0
        · rw [if_pos hm, if_pos hm, if_neg (by omega)]
        · rw [if_neg hm, if_neg hm]
          by_cases hm2 : m % 2 = 1
          · rw [if_pos hm2, if_pos hm2]
            by_cases e : m = n
            · rw [if_pos e, if_pos (by omega)]
            · rw [if_neg e, if_neg (by omega)]
          · rw [if_neg hm2, if_neg hm2, if_neg (by intro e; subst e; exact hm2 h2)]
      · rw [show Nat.beq (Nat.mod n 2) 1 = false from nbf h2]
        show (Tr.node t.val t.left (Tr.setF f t.right (n / 2 - 1) x)).get m = _
        rw [Tr.get_node, Tr.get_node, Tr.get_setF x f t.right (n / 2 - 1) (m / 2 - 1) (by omega)]
        by_cases hm : m = 0
        · rw [if_pos hm, if_pos hm, if_neg (by omega)]
        · rw [if_neg hm, if_neg hm]
          by_cases hm2 : m % 2 = 1
          · rw [if_pos hm2, if_pos hm2, if_neg (by intro e; subst e; exact h2 hm2)]
          · rw [if_neg hm2, if_neg hm2]
            by_cases e : m = n
            · rw [if_pos e, if_pos (by omega)]
            · rw [if_neg e, if_neg (by omega)]
theorem get_set (tm : Tm) (d : Nat) (v : AV) (t : Nat) : get (tm.set d v) t = if t = d ∧ d < tm.length then v else get tm t := by
  by_cases ht : t < tm.length
  · rw [get_in (tm := tm.set d v) ht, get_in ht]
    unfold Tm.set
    by_cases h : d < tm.len
    · rw [blt_t h]
      show (Tr.setF d tm.t d v).get t = _
      rw [Tr.get_setF v d tm.t d t (Nat.le_refl _)]
      by_cases e : t = d
      · rw [if_pos e, if_pos ⟨e, h⟩]
      · rw [if_neg e, if_neg (fun hh => e hh.1)]
    · rw [blt_f h, if_neg (fun hh => h hh.2)]
  · rw [get_ge (tm := tm.set d v) (show tm.length ≤ t by omega), get_ge (by omega), if_neg (fun hh => ht (by omega))]
theorem Tm.length_set (tm : Tm) (d : Nat) (v : AV) : (tm.set d v).length = tm.length := by
  rfl
theorem get_none (n t : Nat) : get (Tm.none n) t = .undef := by
  unfold get
  split <;> rfl
theorem Tr.get_map {f : AV → AV} (hf : f .undef = .undef) : ∀ (t : Tr) (n : Nat), (t.map f).get n = f (t.get n)
  | .nil, n => hf.symm
  | .node v l r, n => by
    show (Tr.node (f v) (l.map f) (r.map f)).get n = _
    rw [Tr.get_node, Tr.get_node, Tr.get_map hf l, Tr.get_map hf r]
    split
    · rfl
    · split <;> rfl
theorem get_map {f : AV → AV} (hf : f .undef = .undef) (m : Tm) (n : Nat) : get (m.map f) n = f (get m n) := by
  by_cases h : n < m.length
  · rw [get_in (tm := m.map f) h, get_in h]; exact Tr.get_map hf m.t n
  · rw [get_ge (tm := m.map f) (show m.length ≤ n by omega), get_ge (by omega), hf]
theorem Tr.all_get {p : AV → Bool} (hp : p .undef = true) : ∀ {t : Tr}, t.all p = true → ∀ n, p (t.get n) = true
  | .nil, _, n => hp
  | .node v l r, h, n => by
    simp only [Tr.all, Bool.and_eq_true] at h
    rw [Tr.get_node]
    split
    · exact h.1
    · split
      · exact Tr.all_get hp h.2.1 _
      · exact Tr.all_get hp h.2.2 _
theorem all_get {p : AV → Bool} (hp : p .undef = true) {m : Tm} (h : m.all p = true) (n : Nat) : p (get m n) = true := by
  by_cases hn : n < m.length
  · rw [get_in hn]; exact Tr.all_get hp h n
  · rw [get_ge (by omega)]; exact hp
theorem get_put : ∀ (l : List AV) (m : Tm) (i t : Nat), i + l.length ≤ m.length → get (Tm.put m i l) t = if i ≤ t ∧ t < i + l.length then l.getD (t - i) .undef else get m t
  | [], m, i, t, h => by
    show get m t = _
    rw [if_neg (by simp)]
  | v :: r, m, i, t, h => by
    simp only [List.length_cons] at h
    show get (Tm.put (m.set i v) (i + 1) r) t = _
    rw [get_put r (m.set i v) (i + 1) t (by rw [Tm.length_set]; omega), get_set]
    simp only [List.length_cons]
    by_cases h1 : t = i
    · subst h1
      rw [if_neg (by omega), if_pos ⟨rfl, by omega⟩, if_pos (by omega), Nat.sub_self]; rfl
    · by_cases h2 : i + 1 ≤ t ∧ t < i + 1 + r.length
      · rw [if_pos h2, if_pos (by omega), show t - i = (t - (i + 1)) + 1 by omega]; rfl
      · rw [if_neg h2, if_neg (fun hh => h1 hh.1), if_neg (by omega)]
theorem get_args (l : List AV) (n t : Nat) : get (Tm.args l n) t = l.getD t .undef := by
  unfold Tm.args
  rw [get_put l _ 0 t (by show 0 + l.length ≤ l.length + (n - l.length); omega)]
  by_cases h : t < l.length
  · rw [if_pos (by omega), Nat.sub_zero]
  · rw [if_neg (by omega), get_none, List.getD_eq_getElem?_getD, List.getElem?_eq_none (by omega)]; rfl
theorem put_len : ∀ (l : List AV) (m : Tm) (i : Nat), (Tm.put m i l).length = m.length
  | [], m, i => rfl
  | v :: r, m, i => by
    show (Tm.put (m.set i v) (i + 1) r).length = _
    rw [put_len r, Tm.length_set]
theorem args_len (l : List AV) (n : Nat) : (Tm.args l n).length = l.length + (n - l.length) := put_len l _ 0

noncomputable def ev (tm : Tm) : Operand → AV
  | .tmp t => get tm t
  | .const v => ofV v
  | .func f => .fn f []
  | .global _ => .undef

/-! ### types -/
def isAggT (P : Program) (t : TypeId) : Bool := match P.underlying t with
  | some (.struct _) => true
  | some (.array _ _) => true
  | _ => false
def szOf (P : Program) (t : TypeId) : Nat := match P.info? t with
  | some i => i.size
  | none => 0
def bytesOfT (P : Program) (t : TypeId) : Nat := match P.info? t with
  | some i => i.bytes
  | none => 0
def zeroCs (P : Program) (t : TypeId) : Option (List AV) := match P.info? t with
  | some i => match i.zero with
    | some (.agg cs) => ofVs cs.toList
    | some v => match ofV0 v with
      | some a => some [a]
      | none => none
    | none => none
  | none => none

@[reducible] def prods : List Sch → Sch
  | [] => .unit
  | [s] => s
  | s :: s' :: r => .pair s (prods (s' :: r))

/-- The kind of a type's cells. -/
def schOf (P : Program) : Nat → TypeId → Sch
  | 0, _ => .unit
  | n + 1, t => match P.underlying t with
    | some (.int k) => .int k
    | some .bool => .bool
    | some .string => .str
    | some (.slice e) => .sl (schOf P n e)
    | some (.array m e) => prods (List.replicate m (schOf P n e))
    | some (.struct fs) => prods (fs.toList.map fun f => schOf P n f.type)
    | _ => .unit
def sch (P : Program) (t : TypeId) : Sch := schOf P 12 t

/-! ### maps -/
def Sch.eqb : (s : Sch) → s.D → s.D → Bool
  | .unit, _, _ => true
  | .int _, a, b => a == b
  | .bool, a, b => a == b
  | .str, a, b => a.toList == b.toList
  | .sl _, _, _ => false
  | .pair p q, a, b => p.eqb a.1 b.1 && q.eqb a.2 b.2
def mget (ks vs : Sch) : List (ks.D × vs.D) → ks.D → Option vs.D
  | [], _ => none
  | x :: r, k => match ks.eqb k x.1 with
    | true => some x.2
    | false => mget ks vs r k
def mput (ks vs : Sch) : List (ks.D × vs.D) → ks.D → vs.D → List (ks.D × vs.D)
  | [], k, v => [(k, v)]
  | x :: r, k, v => match ks.eqb k x.1 with
    | true => (k, v) :: r
    | false => x :: mput ks vs r k v
/-- A map's key and element types. -/
def mapT (P : Program) (t : TypeId) : Option (TypeId × TypeId) := match P.underlying t with
  | some (.map k e) => some (k, e)
  | _ => none
/-- A type whose parts are all of one kind of integers, one cell each. -/
def isIntT (P : Program) (q : IntKind) (t : TypeId) : Bool := match P.underlying t with
  | some (.int k) => decide (k = q)
  | _ => false
def fieldsOk (P : Program) (q : IntKind) : List Field → Nat → Bool
  | [], _ => true
  | f :: r, i => f.name != "_" && (decide (f.offset = i) && (decide (szOf P f.type = 1) && (isIntT P q f.type && fieldsOk P q r (i + 1))))
def intKindOf (P : Program) (t : TypeId) : IntKind := match P.underlying t with
  | some (.int k) => k
  | _ => .i64
/-- A key's type: a number, a string, an array or a struct of numbers. -/
def keyB (P : Program) (t : TypeId) : Bool := match P.underlying t with
  | some (.int _) => true
  | some .string => true
  | some (.array m e) => isIntT P (intKindOf P e) e && (decide (szOf P e = 1) && decide (0 < m))
  | some (.struct fs) => match fs.toList with
    | [] => false
    | f :: r => !(P.stoodInHeld t) && fieldsOk P (intKindOf P f.type) (f :: r) 0
  | _ => false
/-- Is a type's zero value one of several cells? -/
def zeroAgg (P : Program) (t : TypeId) : Bool := match P.info? t with
  | some i => match i.zero with
    | some (.agg _) => true
    | _ => false
  | none => false
def curOf {ks vs : Sch} (l : List (ks.D × vs.D)) (i : Nat) : List (ks.D × vs.D) := [l.getD i (ks.dflt, vs.dflt)]
def nextP (n : Nat) (z : Prop) (k : Nat → Prop) : Prop := (n = 0 → z) ∧ ∀ i, i < n → k i

/-! ### operations that enter nothing -/
structure Eff where
  chk : Bool
  room : Bool
  pre : Option Prop
  val : AV
  upd : List (Nat × Ob)

def one (v : AV) : Option Eff := some ⟨true, true, none, v, []⟩
def chk1 (c : Bool) (v : AV) : Option Eff := some ⟨c, true, none, v, []⟩

def wrapAgg (agg : Bool) (cs : List AV) : AV := match agg with
  | true => .agg cs
  | false => cs.headD .undef

/-- The cells of the first m elements. -/
def encN (s : Sch) (xs : List s.D) : Nat → Nat → List AV
  | 0, _ => []
  | m + 1, i => s.enc (xs.getD i s.dflt) ++ encN s xs m (i + 1)

/-- So many elements, out of cells. -/
def decN (s : Sch) : Nat → List AV → Option (List s.D)
  | 0, [] => some []
  | 0, _ => none
  | n + 1, cs => match s.dec cs with
    | some (x, r) => match decN s n r with
      | some xs => some (x :: xs)
      | none => none
    | none => none

/-- 'set', told element by element. -/
def setL {α : Type} (x : α) (i : Nat) : List α → Nat → List α
  | [], _ => []
  | a :: r, j => (match decide (i = j) with
    | true => x
    | false => a) :: setL x i r (j + 1)

def encL (s : Sch) : List s.D → List AV
  | [] => []
  | x :: r => s.enc x ++ encL s r

def readPtr (look : Nat → Option Ob) (n : Nat) : AV → Option (Bool × List AV)
  | .ptr o off => match look o with
    | some (.cells _ cs) => if off + n ≤ cs.length then some (true, (cs.drop off).take n) else none
    | some (.arr (.fixed m) _ s xs) => match off with
      | 0 => if m * s.size = n then some (true, encN s xs m 0) else none
      | _ => none
    | _ => none
  | .ptre o ver i off => match look o with
    | some (.arr _ ver' s xs) => if ver = ver' then (if off + n ≤ s.size then some (true, ((s.enc (xs.getD i s.dflt)).drop off).take n) else none) else none
    | _ => none
  | .pel s xs i off => if off + n ≤ s.size then some (true, ((s.enc (xs.getD i s.dflt)).drop off).take n) else none
  | .pix o base s m i off => match look o with
    | some (.cells _ cs) => if off + n ≤ s.size ∧ base + m * s.size ≤ cs.length then
        (match decN s m ((cs.drop base).take (m * s.size)) with
        | some xs => some (true, ((s.enc (xs.getD i s.dflt)).drop off).take n)
        | none => none) else none
    | _ => none
  | _ => none

def splice (cs : List AV) (off : Nat) (vs : List AV) : List AV := cs.take off ++ vs ++ cs.drop (off + vs.length)

def writePtr (look : Nat → Option Ob) (vs : List AV) : AV → Option (Bool × Nat × Ob)
  | .ptr o off => match look o with
    | some (.cells false cs) => if off + vs.length ≤ cs.length then some (true, o, .cells false (splice cs off vs)) else none
    | some (.arr (.fixed m) ver s _) => match off with
      | 0 => match decN s m (vs.map (pur look)) with
        | some ys => some (true, o, .arr (.fixed m) ver s ys)
        | none => none
      | _ => none
    | _ => none
  | .ptre o ver i off => match look o with
    | some (.arr m ver' s xs) => if ver = ver' ∧ m ≠ .grow then
        (if off + vs.length ≤ s.size then
          match s.dec (splice (s.enc (xs.getD i s.dflt)) off (vs.map (pur look))) with
          | some (x, []) => some (true, o, .arr m ver s (xs.set i x))
          | _ => none
        else none)
      else none
    | _ => none
  | .pix o base s m i off => match look o with
    | some (.cells false cs) => if off + vs.length ≤ s.size ∧ base + m * s.size ≤ cs.length then
        (match decN s m ((cs.drop base).take (m * s.size)) with
        | some xs => match s.dec (splice (s.enc (xs.getD i s.dflt)) off (vs.map (pur look))) with
          | some (x, []) => some (true, o, .cells false (splice cs base (encL s (setL x i xs 0))))
          | _ => none
        | none => none) else none
    | _ => none
  | _ => none

def bin (op : BinOp) (k : IntKind) (a b : Int) : Option Eff :=
  match op with
  | .add => one (.int k (k.wrap (a + b)))
  | .sub => one (.int k (k.wrap (a - b)))
  | .mul => one (.int k (k.wrap (a * b)))
  | .quo => chk1 (!(decide (b = 0))) (.int k (k.wrap (a.tdiv b)))
  | .rem => chk1 (!(decide (b = 0))) (.int k (a.tmod b))
  | .and => one (.int k (k.wrap (BitVec.ofInt k.bits a &&& BitVec.ofInt k.bits b).toNat))
  | .or => one (.int k (k.wrap (BitVec.ofInt k.bits a ||| BitVec.ofInt k.bits b).toNat))
  | .xor => one (.int k (k.wrap (BitVec.ofInt k.bits a ^^^ BitVec.ofInt k.bits b).toNat))
  | .andNot => one (.int k (k.wrap (BitVec.ofInt k.bits a &&& ~~~(BitVec.ofInt k.bits b)).toNat))
  | .eql => one (.bool (a == b))
  | .neq => one (.bool (a != b))
  | .lss => one (.bool (decide (a < b)))
  | .leq => one (.bool (decide (a ≤ b)))
  | .gtr => one (.bool (decide (a > b)))
  | .geq => one (.bool (decide (a ≥ b)))
  | _ => none

/-- The kind of an element's cells is as its type says. -/
def elOk (P : Program) (e : TypeId) : Bool := (P.info? e).isSome && ((sch P e).size == szOf P e)

/-- A type whose values are one cell, or a struct or an array. -/
def okT (P : Program) (t : TypeId) : Bool := (P.underlying t).isSome && (isAggT P t || szOf P t == 1)

/-- '==' of structs and arrays, part by part. -/
def eqFs (P : Program) (g : TypeId → List AV → List AV → Option Bool) (as bs : List AV) : List Field → Option Bool
  | [] => some true
  | f :: r => if f.name = "_" ∨ okT P f.type = false ∨ as.length < f.offset + szOf P f.type ∨ bs.length < f.offset + szOf P f.type then none else
    match g f.type ((as.drop f.offset).take (szOf P f.type)) ((bs.drop f.offset).take (szOf P f.type)), eqFs P g as bs r with
    | some c, some d => some (c && d)
    | _, _ => none

def eqAr (n : Nat) (g : List AV → List AV → Option Bool) (as bs : List AV) : Nat → Nat → Option Bool
  | 0, _ => some true
  | m + 1, i => match g ((as.drop (i * n)).take n) ((bs.drop (i * n)).take n), eqAr n g as bs m (i + 1) with
    | some c, some d => some (c && d)
    | _, _ => none

def eqTy (P : Program) : Nat → TypeId → List AV → List AV → Option Bool
  | 0, _, _, _ => none
  | n + 1, t, as, bs => match P.underlying t with
    | some (.int _) => match as, bs with
      | [.int k a], [.int k' b] => if k = k' then some (a == b) else none
      | _, _ => none
    | some .bool => match as, bs with
      | [.bool a], [.bool b] => some (a == b)
      | _, _ => none
    | some .string => match as, bs with
      | [.str a], [.str b] => some (a.toList == b.toList)
      | _, _ => none
    | some (.struct fs) => if P.stoodInHeld t then none else eqFs P (eqTy P n) as bs fs.toList
    | some (.array m e) => if okT P e = false ∨ as.length < m * szOf P e ∨ bs.length < m * szOf P e then none else eqAr (szOf P e) (eqTy P n e) as bs m 0
    | _ => none

def plainT (P : Program) (t : TypeId) : Bool := match P.underlying t with
  | some (.interface _) => false
  | some _ => true
  | none => false

def lenAV (look : Nat → Option Ob) : AV → Option Nat
  | .sl _ _ xs => some xs.length
  | .ref o ver => match look o with
    | some (.arr _ ver' _ xs) => if ver = ver' then some xs.length else none
    | _ => none
  | .nils => some 0
  | _ => none

def placeOf (P : Program) (t : TypeId) (i : Nat) : Option Nat := match P.underlying t with
  | some (.struct fs) => (fs[i]?).map (·.offset)
  | some (.array _ e) => some (i * szOf P e)
  | _ => none
def partSz (P : Program) (t : TypeId) (i : Nat) : Option Nat := match P.underlying t with
  | some (.struct fs) => (fs[i]?).map fun f => szOf P f.type
  | some (.array _ e) => some (szOf P e)
  | _ => none

/-- A struct or an array whose parts have sizes. -/
def buildOk (P : Program) (t : TypeId) : Bool := match P.underlying t with
  | some (.struct fs) => fs.toList.all fun f => (P.info? f.type).isSome
  | some (.array _ e) => (P.info? e).isSome
  | _ => false

def fillP (P : Program) (t : TypeId) : List (Nat × AV) → List AV → Option (List AV)
  | [], cs => some cs
  | (i, v) :: r, cs => match placeOf P t i, partSz P t i, v.known with
    | some off, some n, some vs => if vs.length = n ∧ off + n ≤ cs.length then fillP P t r (splice cs off vs) else none
    | _, _, _ => none

def ptrAdd (n : Nat) : AV → AV
  | .ptr o off => .ptr o (off + n)
  | .ptre o ver i off => .ptre o ver i (off + n)
  | .pel s xs i off => .pel s xs i (off + n)
  | .pix o base s m i off => .pix o base s m i (off + n)
  | _ => .undef

/-- Is it a pointer for sure? -/
def ptrOk (look : Nat → Option Ob) : AV → Bool
  | .ptr _ _ => true
  | .pel _ _ _ _ => true
  | .pix _ _ _ _ _ _ => true
  | .ptre o ver _ _ => match look o with
    | some (.arr _ ver' _ _) => ver == ver'
    | _ => false
  | _ => false

/-- A slice read as data: its element kind and its elements. -/
def asSl (look : Nat → Option Ob) (s : Sch) (v : AV) : Option (List s.D) := decTy look (false, .sl s) v

def setParts (look : Nat → Option Ob) (ag : Bool) (s : Sch) : List (Nat × AV) → List s.D → Option (List s.D)
  | [], xs => some xs
  | (i, v) :: r, xs => match decTy look (ag, s) v with
    | some x => if i < xs.length then setParts look ag s r (xs.set i x) else none
    | none => none

def elemT (P : Program) (t : TypeId) : Option TypeId := match P.underlying t with
  | some (.slice e) => some e
  | _ => none

def roomOk (n bytes : Nat) : Bool := decide (n * bytes ≤ 140737488355328)
/-- No slice is longer. -/
def lenOk (n : Nat) : Bool := decide (n ≤ 9223372036854775807)

/-- append(v, ys): the object's number if a new one is made, and the effect. -/
def appF (look : Nat → Option Ob) (site : Nat) (s : Sch) (bytes : Nat) (ys : List s.D) : AV → Option Eff
  | .nils => match look site with
    | none => some ⟨roomOk ys.length bytes, true, none, .ref site 0, [(site, .arr .uniq 0 s ys)]⟩
    | some _ => none
  | .sl true s' xs => if h : s' = s then
      some ⟨roomOk ((h ▸ xs : List s.D).length + ys.length) bytes, true, none, .sl false s ((h ▸ xs : List s.D) ++ ys), []⟩
    else none
  | .ref o ver => match look o with
    | some (.arr m ver' s' xs) => if ver = ver' then (if h : s' = s then
        (match m with
        | .uniq => some ⟨roomOk ((h ▸ xs : List s.D).length + ys.length) bytes, true, none, .ref o (ver + 1), [(o, .arr .uniq (ver + 1) s ((h ▸ xs : List s.D) ++ ys))]⟩
        | .grow => some ⟨roomOk ((h ▸ xs : List s.D).length + ys.length) bytes, true, none, .ref o (ver + 1), [(o, .arr .grow (ver + 1) s ((h ▸ xs : List s.D) ++ ys))]⟩
        | .fixed _ => none) else none) else none
    | _ => none
  | _ => none

def intOf : AV → Option Int
  | .int _ n => some n
  | _ => none

def minmax (isMax : Bool) (a b : Int) : Int := match isMax with
  | true => if b > a then b else a
  | false => if b < a then b else a

def foldMM (isMax : Bool) (k : IntKind) (a : Int) : List AV → Option AV
  | [] => some (.int k a)
  | .int _ b :: r => foldMM isMax k (minmax isMax a b) r
  | _ => none

/-- x[lo:hi] of a slice that is read. -/
def cutF (s : Sch) (xs : List s.D) (lo : Option Int) (hi : Option Int) : Eff :=
  let h := hi.getD xs.length
  let l := lo.getD 0
  ⟨decide (0 ≤ l ∧ l ≤ h ∧ h ≤ xs.length), true, none, .sl false s ((xs.take h.toNat).drop l.toNat), []⟩

def optInt (ρ : Operand → AV) : Option Operand → Option (Option Int)
  | none => some none
  | some x => match ρ x with
    | .int _ n => some (some n)
    | _ => none

def capOf : AV → Option Nat
  | .ptr o 0 => some o
  | _ => none
def capsOf : List AV → Option (List Nat)
  | [] => some []
  | v :: r => match capOf v, capsOf r with
    | some o, some l => some (o :: l)
    | _, _ => none

/-- What is called, and with what: a function, or a closure whose captured variable is data. -/
def callee (E : Env) : AV → List AV → Option (Entry × List AV)
  | .fn f [], vs => match elk f E with
    | some en => match en.clo with
      | false => some (en, vs)
      | true => none
    | none => none
  | .clo f s c, vs => match elk f E with
    | some en => match en.clo && decide (en.doms.getLast? = some (false, .sl s)) with
      | false => none
      | true => some (en, vs ++ [.sl false s [c]])
    | none => none
  | _, _ => none

/-- A call whose one slice nobody else has. -/
def callOwn (look : Nat → Option Ob) (site : Nat) (en : Entry) (x : (tyS en.doms).D) : Option Eff :=
  match en.uq, look site with
  | true, none => match encs en.cods (en.fn x) with
    | [.sl _ s ys] => some ⟨true, true, preOf en x, .ref site 0, [(site, .arr .uniq 0 s ys)]⟩
    | _ => none
  | _, _ => none
/-- An array in a variable is told by its cells where its place is listed. -/
def ownU (P : Program) (own : List Nat) (site : Nat) (t : TypeId) : Option TypeDesc := match own.contains site with
  | true => none
  | false => P.underlying t


def oPick (P : Program) (E : Env) (own : List Nat) (site : Nat) (ρ : Operand → AV) (look : Nat → Option Ob) (c a b : Operand) : Option Eff :=
  match ρ c with
    | .bool x => match x with
      | true => one (ρ a)
      | false => one (ρ b)
    | _ => none
def oAlloc (P : Program) (E : Env) (own : List Nat) (site : Nat) (ρ : Operand → AV) (look : Nat → Option Ob) (t : TypeId) : Option Eff :=
  match look site, zeroCs P t with
    | none, some zs => match ownU P own site t with
      | some (.array m e) => if 0 < (sch P e).size then
          (match decN (sch P e) m zs with
          | some xs => some ⟨true, true, none, .ptr site 0, [(site, .arr (.fixed m) 0 (sch P e) xs)]⟩
          | none => none) else none
      | _ => some ⟨true, true, none, .ptr site 0, [(site, .cells false zs)]⟩
    | _, _ => none
def oBox (P : Program) (E : Env) (own : List Nat) (site : Nat) (ρ : Operand → AV) (look : Nat → Option Ob) (t : TypeId) (x : Operand) : Option Eff :=
  match look site, (ρ x).known with
    | none, some vs => match ownU P own site t with
      | some (.array m e) => if 0 < (sch P e).size then
          (match decN (sch P e) m (vs.map (pur look)) with
          | some xs => some ⟨true, true, none, .ptr site 0, [(site, .arr (.fixed m) 0 (sch P e) xs)]⟩
          | none => none) else none
      | _ => some ⟨true, true, none, .ptr site 0, [(site, .cells false vs)]⟩
    | _, _ => none
def oLoad (P : Program) (E : Env) (own : List Nat) (site : Nat) (ρ : Operand → AV) (look : Nat → Option Ob) (t : TypeId) (a : Operand) : Option Eff :=
  match readPtr look (szOf P t) (ρ a) with
    | some r => if okT P t then chk1 r.1 (wrapAgg (isAggT P t) r.2) else none
    | none => none
def oStore (P : Program) (E : Env) (own : List Nat) (site : Nat) (ρ : Operand → AV) (look : Nat → Option Ob) (t : TypeId) (a x : Operand) : Option Eff :=
  match (ρ x).known with
    | some vs => if vs.length = szOf P t ∧ okT P t then
        (match writePtr look vs (ρ a) with
        | some u => some ⟨u.1, true, none, .skip, [u.2]⟩
        | none => none) else none
    | none => none
def oFieldAddr (P : Program) (E : Env) (own : List Nat) (site : Nat) (ρ : Operand → AV) (look : Nat → Option Ob) (t : TypeId) (x : Operand) (f : Nat) : Option Eff :=
  match P.underlying t with
    | some (.struct fs) => match fs[f]? with
      | some fd => if szOf P fd.type = 0 ∨ (P.info? fd.type).isNone ∨ ptrOk look (ρ x) = false then none else one (ptrAdd fd.offset (ρ x))
      | none => none
    | _ => none
def oIndexAddr (P : Program) (E : Env) (own : List Nat) (site : Nat) (ρ : Operand → AV) (look : Nat → Option Ob) (t : TypeId) (x i : Operand) : Option Eff :=
  match ρ i with
    | .int _ n => match P.underlying t, ρ x with
      | some (.array m e), .ptr ob off => match look ob with
        | some (.arr (.fixed m') ver s _) => match off with
          | 0 => if s.size = szOf P e ∧ m' = m ∧ (P.info? e).isSome then chk1 (decide (0 ≤ n) && decide (n < m)) (.ptre ob ver n.toNat 0) else none
          | _ => none
        | some (.cells _ _) => if elOk P e then chk1 (decide (0 ≤ n) && decide (n < m)) (.pix ob off (sch P e) m n.toNat 0) else none
        | _ => none
      | some (.slice e), .sl _ s xs => if s.size = szOf P e ∧ (P.info? e).isSome then chk1 (decide (0 ≤ n) && decide (n < xs.length)) (.pel s xs n.toNat 0) else none
      | some (.slice e), .ref ob ver => match look ob with
        | some (.arr _ ver' s xs) => if ver = ver' then (if s.size = szOf P e ∧ (P.info? e).isSome then chk1 (decide (0 ≤ n) && decide (n < xs.length)) (.ptre ob ver n.toNat 0) else none) else none
        | _ => none
      | some (.array m e), .pel s xs j off => if (P.info? e).isSome then chk1 (decide (0 ≤ n) && decide (n < m)) (.pel s xs j (off + n.toNat * szOf P e)) else none
      | some (.array m e), .pix ob base s m' j off => if (P.info? e).isSome then chk1 (decide (0 ≤ n) && decide (n < m)) (.pix ob base s m' j (off + n.toNat * szOf P e)) else none
      | some (.array m e), .ptre ob ver j off => if (P.info? e).isSome = true ∧ ptrOk look (.ptre ob ver j off) = true then chk1 (decide (0 ≤ n) && decide (n < m)) (.ptre ob ver j (off + n.toNat * szOf P e)) else none
      | _, _ => none
    | _ => none
def oIndex (P : Program) (E : Env) (own : List Nat) (site : Nat) (ρ : Operand → AV) (look : Nat → Option Ob) (t : TypeId) (x i : Operand) : Option Eff :=
  match P.underlying t, ρ x, ρ i with
    | some (.array m e), .agg cs, .int _ n => if elOk P e ∧ okT P e then (match decN (sch P e) m (cs.map (pur look)) with
      | some xs => chk1 (decide (0 ≤ n) && decide (n < m)) (wrapAgg (isAggT P e) ((sch P e).enc (xs.getD n.toNat (sch P e).dflt)))
      | none => none) else
      -- an array of pointers
      if okT P e ∧ m * szOf P e ≤ cs.length then chk1 (decide (0 ≤ n) && decide (n < m)) (wrapAgg (isAggT P e) ((cs.drop (n.toNat * szOf P e)).take (szOf P e))) else none
    | some .string, .str s, .int _ n => chk1 (decide (0 ≤ n) && decide (n < s.size)) (.int .u8 (s.data.toList.getD n.toNat 0).toNat)
    | _, _, _ => none
def oField (P : Program) (E : Env) (own : List Nat) (site : Nat) (ρ : Operand → AV) (look : Nat → Option Ob) (t : TypeId) (x : Operand) (f : Nat) : Option Eff :=
  match P.underlying t, ρ x with
    | some (.struct fs), .agg cs => match fs[f]? with
      | some fd => if okT P fd.type ∧ fd.offset + szOf P fd.type ≤ cs.length then one (wrapAgg (isAggT P fd.type) ((cs.drop fd.offset).take (szOf P fd.type))) else none
      | none => none
    | _, _ => none
def oBinInt (k : IntKind) (a : Int) (k' : IntKind) (b : Int) (op : BinOp) : Option Eff := match op with
  | .shl => chk1 (!(decide (b < 0))) (.int k (k.wrap (a * 2 ^ min b.toNat k.bits)))
  | .shr => chk1 (!(decide (b < 0))) (.int k (a.fdiv (2 ^ min b.toNat k.bits)))
  | op => if k = k' then bin op k a b else none
def oBinBool (P : Program) (t : TypeId) (a b : Bool) (op : BinOp) : Option Eff := match P.underlying t with
  | some .bool => match op with
    | .eql => one (.bool (a == b))
    | .neq => one (.bool (!(a == b)))
    | _ => none
  | _ => none
def oBinStr (a b : ByteArray) (op : BinOp) : Option Eff := match op with
  | .eql => one (.bool (a.toList == b.toList))
  | .neq => one (.bool (!(a.toList == b.toList)))
  | .add => chk1 (decide (((a.size + b.size : Nat) : Int) ≤ 9223372036854775807)) (.str (a ++ b))
  | .lss => one (.bool (Op.bytesLess a.toList b.toList))
  | .leq => one (.bool (Op.bytesLess a.toList b.toList || a.toList == b.toList))
  | .gtr => one (.bool (!(Op.bytesLess a.toList b.toList || a.toList == b.toList)))
  | .geq => one (.bool (!(Op.bytesLess a.toList b.toList)))
  | _ => none
def oBinAgg (P : Program) (t : TypeId) (a b : List AV) (op : BinOp) : Option Eff := if P.eqGuardType P.depth t ∨ isAggT P t = false then none else (match op, eqTy P 12 t a b with
  | .eql, some c => one (.bool c)
  | .neq, some c => one (.bool (!c))
  | _, _ => none)
def oBinSl (P : Program) (t : TypeId) (n : Nat) (op : BinOp) : Option Eff := match op, P.underlying t with
  | .eql, some (.slice _) => chk1 (decide (0 < n)) (.bool false)
  | .neq, some (.slice _) => chk1 (decide (0 < n)) (.bool true)
  | _, _ => none
def oBinNil (P : Program) (t : TypeId) (op : BinOp) : Option Eff := match op, P.underlying t with
  | .eql, some (.slice _) => one (.bool true)
  | .neq, some (.slice _) => one (.bool false)
  | _, _ => none
def oBinOp (P : Program) (E : Env) (own : List Nat) (site : Nat) (ρ : Operand → AV) (look : Nat → Option Ob) (op : BinOp) (t : TypeId) (x y : Operand) : Option Eff := match ρ x, ρ y with
  | .int k a, .int k' b => oBinInt k a k' b op
  | .bool a, .bool b => oBinBool P t a b op
  | .str a, .str b => oBinStr a b op
  | .agg a, .agg b => oBinAgg P t a b op
  | .sl _ _ xs, .nils => oBinSl P t xs.length op
  | .nils, .nils => oBinNil P t op
  | _, _ => none
def oUnOp (P : Program) (E : Env) (own : List Nat) (site : Nat) (ρ : Operand → AV) (look : Nat → Option Ob) (op : UnOp) (x : Operand) : Option Eff :=
  match op, ρ x with
    | .neg, .int k a => one (.int k (k.wrap (0 - a)))
    | .not, .bool b => one (.bool (!b))
    | _, _ => none
def oConvert (P : Program) (E : Env) (own : List Nat) (site : Nat) (ρ : Operand → AV) (look : Nat → Option Ob) (src dst : TypeId) (x : Operand) : Option Eff :=
  match P.underlying dst, ρ x with
    | some (.int k), .int _ n => if (P.underlying src).isSome then one (.int k (k.wrap n)) else none
    | _, _ => none
def oBuild (P : Program) (E : Env) (own : List Nat) (site : Nat) (ρ : Operand → AV) (look : Nat → Option Ob) (t : TypeId) (ps : Array (Nat × Operand)) : Option Eff :=
  match zeroCs P t with
    | some zs => if buildOk P t = false then none else match fillP P t (ps.toList.map fun p => (p.1, ρ p.2)) zs with
      | some cs => one (.agg cs)
      | none => none
    | none => none
def oBuildSlice (P : Program) (E : Env) (own : List Nat) (site : Nat) (ρ : Operand → AV) (look : Nat → Option Ob) (t : TypeId) (len : Nat) (ps : Array (Nat × Operand)) : Option Eff :=
  match elemT P t with
    | some e => match zeroCs P e with
      | some zs => match (sch P e).dec zs with
        | some (z, []) => if elOk P e ∧ 0 < szOf P e ∧ len * szOf P e ≤ 16777216 then
            (match setParts look (isAggT P e) (sch P e) (ps.toList.map fun p => (p.1, ρ p.2)) (List.replicate len z) with
            | some xs => (match own.contains site with
              | false => one (.sl true (sch P e) xs)
              | true => match look site with
                | none => some ⟨true, true, none, .ref site 0, [(site, .arr .uniq 0 (sch P e) xs)]⟩
                | some _ => none)
            | none => none) else none
        | _ => none
      | none => none
    | none => none
def oExtract (P : Program) (E : Env) (own : List Nat) (site : Nat) (ρ : Operand → AV) (look : Nat → Option Ob) (x : Operand) (i : Nat) : Option Eff :=
  match ρ x with
    | .tup vs => if i < vs.length then one (vs.getD i .undef) else none
    | _ => none
def oMakeFunc (P : Program) (E : Env) (own : List Nat) (site : Nat) (ρ : Operand → AV) (look : Nat → Option Ob) (fv : Fn) (first cap : Array Operand) : Option Eff :=
  match fv, first.toList, capsOf (cap.toList.map ρ) with
    | .func f, [], some l => one (.fn f l)
    | _, _, _ => none
def oMakeSlice (P : Program) (E : Env) (own : List Nat) (site : Nat) (ρ : Operand → AV) (look : Nat → Option Ob) (t : TypeId) (n c : Operand) : Option Eff :=
  match elemT P t, ρ n, ρ c with
    | some e, .int .i64 n, .int .i64 c => match look site with
      | some _ => none
      | none => match (zeroCs P e).bind (sch P e).dec with
        | some (z, []) => if elOk P e ∧ 0 < szOf P e ∧ 0 < bytesOfT P e then
            some ⟨decide (0 ≤ n) && decide (n = c) && roomOk n.toNat (bytesOfT P e), true, none, .ref site 0, [(site, .arr .uniq 0 (sch P e) (List.replicate n.toNat z))]⟩ else none
        | _ => none
    | _, _, _ => none
def oSlice (P : Program) (E : Env) (own : List Nat) (site : Nat) (ρ : Operand → AV) (look : Nat → Option Ob) (t : TypeId) (x : Operand) (lo hi mx : Option Operand) : Option Eff :=
  match mx, optInt ρ lo, optInt ρ hi with
    | none, some l, some h => match elemT P t with
      | some e => match asSl look (sch P e) (ρ x) with
        | some xs => if elOk P e ∧ 0 < szOf P e then some (cutF (sch P e) xs l h) else none
        | none => none
      | none => match P.underlying t, asPel look (ρ x) with
        | some .string, .str s => some ⟨decide (0 ≤ l.getD 0 ∧ l.getD 0 ≤ h.getD s.size ∧ h.getD s.size ≤ s.size), true, none, .str (s.extract (l.getD 0).toNat (h.getD s.size).toNat), []⟩
        | some (.array m e), .pel s xs j off => match l, h with
          | none, none => match decN (sch P e) m (((s.enc (xs.getD j s.dflt)).drop off).take (m * szOf P e)) with
            | some ys => if elOk P e = true ∧ 0 < szOf P e ∧ 0 < m ∧ m ≤ 16777216 ∧ off + m * szOf P e ≤ s.size then one (.sl false (sch P e) ys) else none
            | none => none
          | _, _ => none
        | _, _ => none
    | some m, some none, some (some h) => match elemT P t, ρ m with
      | some e, .int _ c => match asSl look (sch P e) (ρ x) with
        | some xs => if elOk P e ∧ 0 < szOf P e then some ⟨decide (h = xs.length ∧ c = xs.length), true, none, .sl true (sch P e) xs, []⟩ else none
        | none => none
      | _, _ => none
    | _, _, _ => none
def oClen (P : Program) (E : Env) (own : List Nat) (site : Nat) (ρ : Operand → AV) (look : Nat → Option Ob) (c : Call) : Option Eff :=
    match c.argTypes[0]?, c.args[0]? with
      | some t, some x => match P.underlying t with
        | some (.array n _) => one (.int .i64 n)
        | some (.slice _) => match lenAV look (ρ x) with
          | some n => some ⟨true, lenOk n, none, .int .i64 n, []⟩
          | none => none
        | some .string => match ρ x with
          | .str s => one (.int .i64 s.size)
          | _ => none
        | _ => none
      | _, _ => none
def oCappend (P : Program) (E : Env) (own : List Nat) (site : Nat) (ρ : Operand → AV) (look : Nat → Option Ob) (c : Call) : Option Eff :=
    match c.argTypes[0]?, c.argTypes[1]?, c.args[0]?, c.args[1]? with
      | some t, some t', some x, some y => match elemT P t, elemT P t' with
        | some e, some _ => if elOk P e ∧ 0 < szOf P e ∧ 0 < bytesOfT P e ∧ ((zeroCs P e).map (·.length) = some (szOf P e)) ∧ c.args.size = 2 ∧ c.argTypes.size = 2 then
            (match asSl look (sch P e) (ρ y) with
            | some ys => appF look site (sch P e) (bytesOfT P e) ys (ρ x)
            | none => none) else none
        | _, _ => none
      | _, _, _, _ => none
def oCmax (P : Program) (E : Env) (own : List Nat) (site : Nat) (ρ : Operand → AV) (look : Nat → Option Ob) (c : Call) : Option Eff :=
    match c.args.toList.map ρ with
      | .int k a :: r => match foldMM true k a r with
        | some v => one v
        | none => none
      | _ => none
def oCmin (P : Program) (E : Env) (own : List Nat) (site : Nat) (ρ : Operand → AV) (look : Nat → Option Ob) (c : Call) : Option Eff :=
    match c.args.toList.map ρ with
      | .int k a :: r => match foldMM false k a r with
        | some v => one v
        | none => none
      | _ => none
def oCvalue (P : Program) (E : Env) (own : List Nat) (site : Nat) (ρ : Operand → AV) (look : Nat → Option Ob) (c : Call) (f : Operand) : Option Eff :=
    match callee E (ρ f) (c.args.toList.map ρ) with
      | some q => match decs look q.1.doms q.2 with
        | some x => (match own.contains site with
          | false => some ⟨true, true, preOf q.1 x, encRx q.1 (q.1.fn x), []⟩
          | true => callOwn look site q.1 x)
        | none => none
      | none => none
def oCall (P : Program) (E : Env) (own : List Nat) (site : Nat) (ρ : Operand → AV) (look : Nat → Option Ob) (c : Call) : Option Eff :=
  match c.callee with
    | .builtin .len => oClen P E own site ρ look c
    | .builtin .append => oCappend P E own site ρ look c
    | .builtin .max => oCmax P E own site ρ look c
    | .builtin .min => oCmin P E own site ρ look c
    | .value f => oCvalue P E own site ρ look c f
    | _ => none
def oMakeMap (P : Program) (E : Env) (own : List Nat) (site : Nat) (ρ : Operand → AV) (look : Nat → Option Ob) (t : TypeId) : Option Eff :=
  match mapT P t, look site with
    | some (k, e), none => if keyB P k = true ∧ okT P e = true then
        some ⟨true, true, none, .hnd true site, [(site, .map 0 (isAggT P k) (isAggT P e) (sch P k) (sch P e) [])]⟩ else none
    | _, _ => none
def oMapUpdate (P : Program) (E : Env) (own : List Nat) (site : Nat) (ρ : Operand → AV) (look : Nat → Option Ob) (t : TypeId) (m x y : Operand) : Option Eff :=
  match mapT P t, ρ m with
    | some (k, e), .hnd true o => match look o with
      | some (.map ver ka va ks vs xs) => if ks = sch P k ∧ keyB P k = true ∧ ka = isAggT P k then (match decTy look (ka, ks) (ρ x), decTy look (va, vs) (ρ y) with
        | some a, some b => some ⟨true, true, none, .skip, [(o, .map (ver + 1) ka va ks vs (mput ks vs xs a b))]⟩
        | _, _ => none) else none
      | _ => none
    | _, _ => none
def oLookup (P : Program) (E : Env) (own : List Nat) (site : Nat) (ρ : Operand → AV) (look : Nat → Option Ob) (t : TypeId) (m x : Operand) (c : Bool) : Option Eff :=
  match mapT P t, ρ m with
    | some (k, e), .hnd true o => match look o with
      | some (.map _ ka va ks vs xs) => if ks = sch P k ∧ keyB P k = true ∧ ka = isAggT P k ∧ va = zeroAgg P e then (match decTy look (ka, ks) (ρ x), (zeroCs P e).bind vs.dec with
        | some a, some (z, []) => (match c with
          | true => one (.tup [encTy (va, vs) ((mget ks vs xs a).getD z), .bool (mget ks vs xs a).isSome])
          | false => one (encTy (va, vs) ((mget ks vs xs a).getD z)))
        | _, _ => none) else none
      | _ => none
    | _, _ => none
def oRange (P : Program) (E : Env) (own : List Nat) (site : Nat) (ρ : Operand → AV) (look : Nat → Option Ob) (t : TypeId) (m : Operand) : Option Eff :=
  match mapT P t, ρ m, look site with
    | some _, .hnd true o, none => match look o with
      | some (.map ver _ _ ks vs xs) => some ⟨true, true, none, .hnd false site, [(site, .it o ver ks vs xs [])]⟩
      | _ => none
    | _, _, _ => none
def oSliceToArrayPointer (P : Program) (E : Env) (own : List Nat) (site : Nat) (ρ : Operand → AV) (look : Nat → Option Ob) (t : TypeId) (x : Operand) : Option Eff :=
  match P.underlying t with
    | some (.array m e) => match asSl look (sch P e) (ρ x) with
      | some xs => match (prods (List.replicate m (sch P e))).dec (encN (sch P e) xs m 0) with
        | some (d, []) => if elOk P e ∧ 0 < szOf P e ∧ 0 < m then chk1 (decide (m ≤ xs.length)) (.pel (prods (List.replicate m (sch P e))) [d] 0 0) else none
        | _ => none
      | none => none
    | _ => none
def oNilCheck (P : Program) (E : Env) (own : List Nat) (site : Nat) (ρ : Operand → AV) (look : Nat → Option Ob) (x : Operand) : Option Eff :=
  match ρ x with
    | .ptr o off => one (.ptr o off)
    | _ => none
def oEntry (P : Program) (E : Env) (own : List Nat) (site : Nat) (ρ : Operand → AV) (look : Nat → Option Ob) (x : Operand) : Option Eff :=
  match ρ x with
    | .hnd false o => match look o with
      | some (.it mo ver ks vs _ [c]) => match look mo with
        | some (.map ver' ka va ks' vs' _) => if h : ver' = ver ∧ ks' = ks ∧ vs' = vs then one (.tup [encTy (ka, ks) c.1, encTy (va, vs) c.2]) else none
        | _ => none
      | _ => none
    | _ => none
def opF (P : Program) (E : Env) (own : List Nat) (site : Nat) (ρ : Operand → AV) (look : Nat → Option Ob) (o : Oper) : Option Eff :=
  match o.op with
  | .move x => one (ρ x)
  | .assign x => one (ρ x)
  | .pick c a b => oPick P E own site ρ look c a b
  | .alloc t => oAlloc P E own site ρ look t
  | .box t x => oBox P E own site ρ look t x
  | .load t a => oLoad P E own site ρ look t a
  | .store t a x => oStore P E own site ρ look t a x
  | .fieldAddr t x f => oFieldAddr P E own site ρ look t x f
  | .indexAddr t x i => oIndexAddr P E own site ρ look t x i
  | .index t x i => oIndex P E own site ρ look t x i
  | .field t x f => oField P E own site ρ look t x f
  | .binOp op t x y _ => oBinOp P E own site ρ look op t x y
  | .unOp op _ x => oUnOp P E own site ρ look op x
  | .convert src dst x => oConvert P E own site ρ look src dst x
  | .build t ps => oBuild P E own site ρ look t ps
  | .buildSlice t len ps => oBuildSlice P E own site ρ look t len ps
  | .extract x i => oExtract P E own site ρ look x i
  | .makeFunc fv first cap => oMakeFunc P E own site ρ look fv first cap
  | .makeSlice t n c => oMakeSlice P E own site ρ look t n c
  | .slice t x lo hi mx => oSlice P E own site ρ look t x lo hi mx
  | .call c => oCall P E own site ρ look c
  | .makeInterface t _ => if plainT P t then one .undef else none
  | .makeMap t r => match r with
    | none => oMakeMap P E own site ρ look t
    | some _ => none
  | .mapUpdate t m x y => oMapUpdate P E own site ρ look t m x y
  | .lookup t m x c => oLookup P E own site ρ look t m x c
  | .range t m => oRange P E own site ρ look t m
  | .sliceToArrayPointer t x => oSliceToArrayPointer P E own site ρ look t x
  | .nilCheck x => oNilCheck P E own site ρ look x
  | .entry x => oEntry P E own site ρ look x
  | .insert _ _ _ _ => none
  | .ready _ => none
  | .waits _ => none
  | .makeChan _ _ => none
  | .mapEntry _ _ _ => none
  | .entryStore _ _ _ _ => none
  | .next _ _ => none
  | .typeAssert _ _ _ _ => none
  | .go _ => none
  | .defer _ => none
  | .panic _ => none
  | .send _ _ => none
  | .recv _ _ _ => none
  | .select _ _ => none

/-! ### freezing -/
/-- The slices under construction in a value. -/
def refsOf : AV → List Nat
  | .ref o _ => [o]
  | .agg cs => cs.flatMap fun | .ref o _ => [o] | _ => []
  | _ => []

/-- The operands that an operation reads as data. -/
def needs (o : Oper) : List Operand :=
  match o.op with
  | .buildSlice _ _ ps => ps.toList.map (·.2)
  | .slice _ x _ _ _ => [x]
  | .sliceToArrayPointer _ x => [x]
  | .box _ x => [x]
  | .store _ _ x => [x]
  | .mapUpdate _ _ x y => [x, y]
  | .call c => match c.callee with
    | .builtin .append => (c.args.toList.drop 1)
    | .value _ => c.args.toList
    | _ => []
  | _ => []

def frz1 (o : Nat) (σ : St) : St := match lk o σ.sto with
  | some (.arr .uniq ver s xs) => { σ with sto := ups o (.arr .grow ver s xs) σ.sto, dob := o :: σ.dob }
  | _ => σ

def frz : List Nat → St → St
  | [], σ => σ
  | o :: r, σ => frz r (frz1 o σ)

def frzOps (σ : St) (xs : List Operand) : St := frz (xs.flatMap fun x => refsOf (ev σ.tm x)) σ

/-- What x[:] freezes: the slice under construction, or the one that an array is an element of. -/
def slRefs : AV → List Nat
  | .ptre o _ _ _ => [o]
  | v => refsOf v

/-- Is a call met by an entry (else it is entered)? A store or a box freezes nothing. -/
def frzFor (E : Env) (σ : St) (o : Oper) : St :=
  match o.op with
  | .slice _ x _ _ _ => frz (slRefs (ev σ.tm x)) σ
  | .box _ _ => σ
  | .store _ _ _ => σ
  | .call c => match c.callee with
    | .value f => match ev σ.tm f with
      | .fn f [] => match elk f E with
        | some _ => frzOps σ (needs o)
        | none => σ
      | .clo _ _ _ => frzOps σ (needs o)
      | _ => σ
    | _ => frzOps σ (needs o)
  | _ => frzOps σ (needs o)

/-! ### running -/
def appEff (dst : Option Tmp) (σ : St) (v : AV) (upd : List (Nat × Ob)) : St :=
  { σ with
    tm := match dst with
      | some d => σ.tm.set d v
      | none => σ.tm
    dt := match dst with
      | some d => d :: σ.dt
      | none => σ.dt
    sto := upd.foldl (fun s u => ups u.1 u.2 s) σ.sto
    dob := upd.map (·.1) ++ σ.dob }

def siteOf (path rid i : Nat) : Nat := path * 1048576 + (rid * 1024 + i)

/-- A call of 'yield' at a place: what its round does. -/
abbrev Hd := Nat → List AV → St → (AV → St → Prop) → Prop
abbrev Ys := List (Nat × Hd)
abbrev Inl1 := Nat → FuncId → List AV → St → (AV → St → Prop) → Prop
abbrev Inl := Ys → Inl1
def ylo (o : Nat) : Ys → Option Hd
  | [] => none
  | (p, h) :: r => if p = o then some h else ylo o r
def ylk (o : Nat) (Y : Ys) : Hd := match ylo o Y with
  | some h => h
  | none => fun _ _ _ _ => False

def withPre (p : Option Prop) (k : Prop) : Prop := match p with
  | none => k
  | some q => q ∧ k

/-- x[:] of an array in a variable: from then on the variable is only read. -/
def sliceArr (P : Program) (σ : St) (o : Oper) : Option (AV × Nat × Ob) := match o.op with
  | .slice t x none none none => match P.underlying t, ev σ.tm x with
    | some (.array m e), .ptr p off => match lk p σ.sto with
      | some (.cells _ cs) => if elOk P e = true ∧ 0 < szOf P e ∧ 0 < m ∧ m ≤ 16777216 ∧ off + m * szOf P e ≤ cs.length then (match decN (sch P e) m ((cs.drop off).take (m * szOf P e)) with
        | some xs => some (.sl false (sch P e) xs, p, .cells true cs)
        | none => none) else none
      | _ => none
    | _, _ => none
  | _ => none

/-- Cells as one value of their own kind. -/
def sch1 : AV → Option Sch
  | .int k _ => some (.int k)
  | .bool _ => some .bool
  | .str _ => some .str
  | .sl _ s _ => some (.sl s)
  | _ => none
def schCs : List AV → Option Sch
  | [] => some .unit
  | [v] => sch1 v
  | v :: v' :: r => match sch1 v, schCs (v' :: r) with
    | some a, some b => some (.pair a b)
    | _, _ => none
def cloData (look : Nat → Option Ob) (cs : List AV) : Option (Sigma fun s : Sch => s.D) := match schCs (cs.map (pur look)) with
  | some s => match full s (cs.map (pur look)) with
    | some x => if 0 < s.size then some ⟨s, x⟩ else none
    | none => none
  | none => none

/-- x[:0] of a slice under construction: from then on it is empty; of no slice at all, and its room; zeros appended to no slice. -/
def isZ : Operand → Bool
  | .const (.int _ n) => decide (n = 0)
  | _ => false
def specF (P : Program) (own : List Nat) (site : Nat) (σ : St) (o : Oper) : Option (Bool × AV × List (Nat × Ob)) := match o.op with
  | .slice t x none (some hi) none => match isZ hi || own.contains site with
    | false => none
    | true => match elemT P t, ev σ.tm hi with
    | some e, .int _ n => if n = 0 then (match ev σ.tm x with
      | .nils => if elOk P e then some (true, .nils, []) else none
      | .ref ob ver => match lk ob σ.sto with
        | some (.arr .uniq ver' s _) => if ver = ver' ∧ elOk P e = true then some (true, .ref ob (ver + 1), [(ob, .arr .uniq (ver + 1) s [])]) else none
        | _ => none
      | _ => none) else none
    | _, _ => none
  | .slice t x (some lo) none none => match own.contains site with
    | false => none
    | true => match elemT P t, ev σ.tm lo, ev σ.tm x with
      | some e, .int _ n, .ref ob ver => match lk ob σ.sto with
        | some (.arr .uniq ver' s xs) => if ver = ver' ∧ elOk P e = true ∧ szOf P e = s.size then some (decide (0 ≤ n ∧ n ≤ (xs.length : Int)), .vw ob ver n.toNat, []) else none
        | _ => none
      | _, _, _ => none
  | .call c => match c.callee with
    | .builtin .clear => match c.argTypes.toList, c.args.toList with
      | [t], [x] => match elemT P t, ev σ.tm x with
        | some e, .vw ob ver lo => match lk ob σ.sto with
          | some (.arr .uniq ver' (.int k) xs) => match zeroCs P e with
            | some [.int k' z] => if ver = ver' ∧ k' = k then some (true, .undef, [(ob, .arr .uniq ver (.int k) (xs.take lo ++ List.replicate (xs.length - lo) z))]) else none
            | _ => none
          | _ => none
        | _, _ => none
      | _, _ => none
    | .builtin .cap => match c.argTypes[0]?, c.args[0]? with
      | some t, some x => match elemT P t, ev σ.tm x with
        | some _, .nils => some (true, .int .i64 0, [])
        | _, _ => none
      | _, _ => none
    | .builtin .append => match c.argTypes.toList, c.args.toList with
      | [t, t'], [x, y] => match ev σ.tm x, ev σ.tm y with
        | .nils, .int _ n => match elemT P t, P.underlying t' with
          | some e, some (.int _) => match (zeroCs P e).bind (sch P e).dec with
            | some (z, []) => if elOk P e = true ∧ 0 < szOf P e ∧ 0 < bytesOfT P e ∧ lk site σ.sto = none then
                some (decide (0 < n) && roomOk n.toNat (bytesOfT P e), .ref site 0, [(site, .arr .uniq 0 (sch P e) (List.replicate n.toNat z))]) else none
            | _ => none
          | _, _ => none
        | _, _ => none
      | _, _ => none
    | _ => none
  | .makeFunc fv first cap => match own.contains site with
    | false => none
    | true => match fv, first.toList, cap.toList with
      | .func f, [], [x] => match ev σ.tm x with
        | .ptr p 0 => match lk p σ.sto with
          | some (.cells _ cs) => match cloData (lk · σ.sto) cs with
            | some q => some (true, .clo f q.1 q.2, [(p, .cells true cs)])
            | none => none
          | _ => none
        | _ => none
      | _, _, _ => none
  | _ => none

/-- A step of a walk over a map that has not been turned. -/
def nextF (σ : St) (o : Oper) : Option (Nat × Ob) := match o.op with
  | .next x false => match ev σ.tm x with
    | .hnd false p => match lk p σ.sto with
      | some (.it mo ver ks vs left cur) => match lk mo σ.sto with
        | some (.map ver' _ _ _ _ _) => if ver' = ver then some (p, .it mo ver ks vs left cur) else none
        | _ => none
      | _ => none
    | _ => none
  | _ => none

/-- Is a slice nil? Where its place is listed either answer will do, unless it has elements. -/
def nilF (P : Program) (own : List Nat) (site : Nat) (σ : St) (o : Oper) : Option (Nat × Bool) := match o.op with
  | .binOp op t x y _ => match own.contains site with
    | false => none
    | true => match op, elemT P t, ev σ.tm x, ev σ.tm y with
      | .eql, some _, .sl _ _ xs, .nils => some (xs.length, true)
      | .neq, some _, .sl _ _ xs, .nils => some (xs.length, false)
      | _, _, _, _ => none
  | _ => none

/-- A call that turns a slice of its caller in place. -/
def ipF (E : Env) (σ : St) (o : Oper) : Option (Prop × Nat × Ob) := match o.op with
  | .call c => match c.callee with
    | .value f => match c.args.toList with
      | [x, y] => match ev σ.tm f, ev σ.tm x, ev σ.tm y with
        | .fn f [], .ref ob ver, .fn g [] => match elk f E with
          | some en => match en.ip with
            | some q => match lk ob σ.sto with
              | some (.arr .uniq ver' s xs) => if h : s = q.s then (if ver' = ver ∧ q.g = g then
                  some (q.pre (h ▸ xs), ob, .arr .uniq ver q.s (q.fn (h ▸ xs))) else none) else none
              | _ => none
            | none => none
          | none => none
        | _, _, _ => none
      | _ => none
    | _ => none
  | _ => none

/-- A call that returns no slices: what it is handed may be turned behind it. -/
def borF (E : Env) (σ : St) (o : Oper) : Option (Option Prop × AV) := match o.op with
  | .call c => match c.callee with
    | .value f => match callee E (ev σ.tm f) (c.args.toList.map (ev σ.tm)) with
      | some q => match q.1.cods.all fun t => t.2.flat with
        | true => match decs (fun p => lk p (frzOps σ c.args.toList).sto) q.1.doms q.2 with
          | some x => some (preOf q.1 x, encRes q.1.cods (q.1.fn x))
          | none => none
        | false => none
      | none => none
    | _ => none
  | _ => none

/-- One operation: an entered call is handed to 'inl'. -/
def stepO (P : Program) (E : Env) (own : List Nat) (inl : Inl1) (Y : Ys) (site : Nat) (o : Oper) (σ0 : St) (k : St → Prop) : Prop :=
  match ipF E σ0 o with
  | some q => q.1 ∧ k (appEff o.dst σ0 .undef [(q.2.1, q.2.2)])
  | none =>
  match borF E σ0 o with
  | some q => withPre q.1 (k (appEff o.dst σ0 q.2 []))
  | none =>
  match nilF P own site σ0 o with
  | some q => (q.1 = 0 → k (appEff o.dst σ0 (.bool q.2) [])) ∧ k (appEff o.dst σ0 (.bool (!q.2)) [])
  | none =>
  match specF P own site σ0 o with
  | some q => br q.1 (k (appEff o.dst σ0 q.2.1 q.2.2)) False
  | none =>
  let σ := frzFor E σ0 o
  match opF P E own site (ev σ.tm) (fun p => lk p σ.sto) o with
  | some e => br e.chk (withPre e.pre (br e.room (k (appEff o.dst σ e.val e.upd)) True)) False
  | none => match o.op with
    | .call c => match c.callee with
      | .value f => match ev σ.tm f with
        | .fn f cap => inl site f (c.args.toList.map (ev σ.tm) ++ cap.map fun p => .ptr p 0) σ fun v σ' => k (appEff o.dst σ' v [])
        | .yld i => ylk i Y site (c.args.toList.map (ev σ.tm)) σ fun v σ' => k (appEff o.dst σ' v [])
        | _ => False
      | _ => False
    | _ => match sliceArr P σ o with
      | some q => k (appEff o.dst σ q.1 [q.2])
      | none => match nextF σ o with
        | some (ob, .it mo ver ks vs left _) => nextP left.length (k (appEff o.dst σ (.tup [.bool false]) []))
            (fun i => k (appEff o.dst σ (.tup [.bool true, .undef, .undef]) [(ob, .it mo ver ks vs (left.eraseIdx i) (curOf left i))]))
        | _ => False

/-- Operations that nothing but opF looks at; tests; all others. -/
def opTag : Op → Nat
  | .move _ => 0
  | .assign _ => 0
  | .pick _ _ _ => 0
  | .alloc _ => 0
  | .box _ _ => 0
  | .build _ _ => 0
  | .buildSlice _ _ _ => 2
  | .insert _ _ _ _ => 2
  | .load _ _ => 0
  | .store _ _ _ => 0
  | .ready _ => 2
  | .waits _ => 2
  | .nilCheck _ => 2
  | .binOp _ _ _ _ _ => 1
  | .unOp _ _ _ => 0
  | .convert _ _ _ => 0
  | .sliceToArrayPointer _ _ => 2
  | .makeInterface _ _ => 2
  | .makeFunc _ _ _ => 2
  | .makeMap _ _ => 2
  | .makeChan _ _ => 2
  | .makeSlice _ _ _ => 2
  | .slice _ _ _ _ _ => 2
  | .fieldAddr _ _ _ => 0
  | .field _ _ _ => 0
  | .indexAddr _ _ _ => 0
  | .index _ _ _ => 0
  | .lookup _ _ _ _ => 2
  | .mapUpdate _ _ _ _ => 2
  | .mapEntry _ _ _ => 2
  | .entryStore _ _ _ _ => 2
  | .range _ _ => 2
  | .next _ _ => 2
  | .entry _ => 2
  | .typeAssert _ _ _ _ => 2
  | .extract _ _ => 0
  | .call _ => 2
  | .go _ => 2
  | .defer _ => 2
  | .panic _ => 2
  | .send _ _ => 2
  | .recv _ _ _ => 2
  | .select _ _ => 2
def opStep (P : Program) (E : Env) (own : List Nat) (site : Nat) (o : Oper) (σ : St) (k : St → Prop) : Prop :=
  match opF P E own site (ev σ.tm) (fun p => lk p σ.sto) o with
  | some e => br e.chk (withPre e.pre (br e.room (k (appEff o.dst σ e.val e.upd)) True)) False
  | none => False
/-- One operation, as quickly as the kernel can. -/
def stepQ (P : Program) (E : Env) (own : List Nat) (inl : Inl1) (Y : Ys) (site : Nat) (o : Oper) (σ : St) (k : St → Prop) : Prop :=
  match opTag o.op with
  | 0 => opStep P E own site o σ k
  | 1 => match nilF P own site σ o with
    | some q => (q.1 = 0 → k (appEff o.dst σ (.bool q.2) [])) ∧ k (appEff o.dst σ (.bool (!q.2)) [])
    | none => opStep P E own site o σ k
  | _ => stepO P E own inl Y site o σ k
theorem stepQ_eq (P : Program) (E : Env) (own : List Nat) (inl : Inl1) (Y : Ys) (site : Nat) (o : Oper) (σ : St) (k : St → Prop) : stepQ P E own inl Y site o σ k = stepO P E own inl Y site o σ k := by
  unfold stepQ
  cases ho : o.op <;> simp only [opTag] <;> first
    | rfl
    | (unfold opStep stepO ipF borF nilF specF frzFor needs; simp only [ho, frzOps, List.flatMap_nil, frz]; split <;> simp_all [sliceArr, nextF]; done)
    | (unfold opStep stepO ipF borF specF frzFor needs; simp only [ho, frzOps, List.flatMap_nil, frz]; split
       · rfl
       · split <;> simp_all [sliceArr, nextF]; done)

def goOps (P : Program) (E : Env) (own : List Nat) (inl : Inl1) (Y : Ys) (path rid : Nat) (ops : Array Oper) : List Oper → Nat → St → (St → Prop) → Prop
  | [], _, σ, k => k σ
  | o :: r, i, σ, k =>
    match o.guard with
    | none => stepQ P E own inl Y (siteOf path rid i) o σ fun σ' => goOps P E own inl Y path rid ops r (i + 1) σ' k
    | some (j, want) => match (ops[j]?).bind (·.dst) with
      | none => False
      | some d => match get σ.tm d with
        | .bool b => match want with
          | true => br b (stepQ P E own inl Y (siteOf path rid i) o { σ with tm := σ.tm.set d (.bool true) } fun σ' => goOps P E own inl Y path rid ops r (i + 1) σ' k)
              (goOps P E own inl Y path rid ops r (i + 1) (appEff o.dst { σ with tm := σ.tm.set d (.bool false) } .skip []) k)
          | false => br b (goOps P E own inl Y path rid ops r (i + 1) (appEff o.dst { σ with tm := σ.tm.set d (.bool true) } .skip []) k)
              (stepQ P E own inl Y (siteOf path rid i) o { σ with tm := σ.tm.set d (.bool false) } fun σ' => goOps P E own inl Y path rid ops r (i + 1) σ' k)
        | .skip => goOps P E own inl Y path rid ops r (i + 1) (appEff o.dst σ .skip []) k
        | _ => False

/-! ### statements whose order is open -/
/-- 0: it neither reads nor writes memory; 1: it reads at most; 2: it makes a new variable; 3: it writes. -/
def cls (o : Oper) : Nat := match o.op with
  | .move _ => 0
  | .assign _ => 0
  | .pick _ _ _ => 0
  | .binOp _ _ _ _ _ => 0
  | .unOp _ _ _ => 0
  | .convert _ _ _ => 0
  | .extract _ _ => 0
  | .field _ _ _ => 0
  | .build _ _ => 0
  | .makeFunc _ _ _ => 0
  | .nilCheck _ => 0
  | .alloc _ => 2
  | .box _ _ => 2
  | .store _ _ _ => 3
  | .makeSlice _ _ _ => 3
  | .makeMap _ _ => 2
  | .range _ _ => 2
  | .mapUpdate _ _ _ _ => 3
  | .buildSlice _ _ _ => 2
  | .call c => match c.callee with
    | .builtin .append => 3
    | .value _ => 2
    | _ => 1
  | _ => 1

/-- May two operations be done in either order, as far as memory goes? What does not write sees nothing of memory beside one that writes. -/
def freeOf (a b : Nat) : Bool := !(a == 3 && b == 3)

/-- An append to what a call of the same statement returns: no variable is turned. -/
def appOf (ops : Array Oper) (o : Oper) : Bool := match o.op with
  | .call c => match c.callee with
    | .builtin .append => match (c.args[0]? : Option Operand) with
      | some (Operand.tmp t) => ops.toList.any fun o' => (match o'.dst with
          | some d => d == t
          | none => false) && (match o'.op with
          | .call c' => (match c'.callee with
            | .value _ => true
            | _ => false)
          | _ => false)
      | _ => false
    | _ => false
  | _ => false
def clsA (ops : Array Oper) (o : Oper) : Nat := match appOf ops o with
  | true => 1
  | false => cls o

/-- What is surely done before each operation (a list of numbers each). -/
def addB (acc : List (List Nat)) (l : List Nat) (q : Nat) : List Nat := match l.contains q with
  | true => l
  | false => q :: ((acc.getD q []).filter fun x => !(l.contains x)) ++ l
def bef1 (acc : List (List Nat)) (o : Oper) : List Nat := o.after.toList.foldr (fun e l => match Region.binds .any e with
    | true => addB acc l e.on
    | false => l) []
def befores : List Oper → List (List Nat) → List (List Nat)
  | [], acc => acc
  | o :: r, acc => befores r (acc ++ [bef1 acc o])

/-- A statement that draws its order: what reads (or makes a new variable) in any order, what writes behind all of it, in one order. -/
def drawOk (ops : Array Oper) : Bool :=
  let l := ops.toList
  let b := befores l []
  let ix := List.range l.length
  (ix.all fun j => match l[j]? with
    | none => false
    | some oj =>
      (oj.after.toList.all fun e => match Region.binds .any e with
        | true => decide (e.on < j)
        | false => true) &&
      ((List.range j).all fun i => match l[i]? with
        | none => false
        | some oi => (b.getD j []).contains i || (freeOf (clsA ops oi) (clsA ops oj) && oi.apart ops oj)))

/-- The slices that a statement's calls are handed are frozen ahead of it. -/
def preFrz (ops : Array Oper) (σ : St) : St :=
  frz (ops.toList.flatMap fun o => match o.op, o.dst with
    | .move x, some d => match ops.toList.any fun o' => (match o'.op with
        | .store _ _ _ => false
        | .box _ _ => false
        | _ => true) && (needs o').any fun
        | .tmp t => t == d
        | _ => false with
      | true => refsOf (ev σ.tm x)
      | false => []
    | _, _ => []) σ

/-- An operation that does not write, beside one that writes: neither is surely done before the other. -/
def blind (bef : List (List Nat)) (ops : Array Oper) (j : Nat) : Bool := match ops[j]? with
  | some oj => (clsA ops oj == 1 || clsA ops oj == 2) && (List.range ops.size).any fun m => match ops[m]? with
    | some om => clsA ops om == 3 && (m != j && (!((bef.getD j []).contains m) && !((bef.getD m []).contains j)))
    | none => false
  | none => false
/-- What a statement that draws its order may write: all, or what is listed. -/
def wrOf (own : List Nat) (path rid p : Nat) : Bool := match own.contains (siteOf path rid 901) with
  | false => true
  | true => own.contains (p * 2 ^ 400 + siteOf path rid 902)
/-- The variables that operation j does not see: what other operations of the statement make, unless they come ahead. -/
def hidden (wr : Nat → Bool) (path rid n : Nat) (bef : List (List Nat)) (ops : Array Oper) (j p : Nat) : Bool :=
  (blind bef ops j && (wr p && p != siteOf path rid j)) || (List.range n).any fun m => p == siteOf path rid m && (m != j && !((bef.getD j []).contains m))

def lkD (wr : Nat → Bool) (path rid n : Nat) (bef : List (List Nat)) (ops : Array Oper) (j : Nat) (sto : List (Nat × Ob)) (p : Nat) : Option Ob := match hidden wr path rid n bef ops j p with
  | true => none
  | false => lk p sto

/-- An operation of a statement that draws its order. -/
def opD (P : Program) (E : Env) (own : List Nat) (wr : Nat → Bool) (ops : Array Oper) (site : Nat) (ρ : Operand → AV) (look : Nat → Option Ob) (o : Oper) : Option Eff := match opF P E own site ρ look o with
  | some e => (match (appOf ops o && !e.upd.isEmpty) || (cls o == 3 && !(e.upd.all fun u => wr u.1 || u.1 == site)) with
    | true => none
    | false => some e)
  | none => none

/-- A statement that draws its order, in the order of the text: what each operation asks for in memory is handed on to the end. -/
def goD (P : Program) (E : Env) (own : List Nat) (path rid n : Nat) (bef : List (List Nat)) (ops : Array Oper) : List Oper → Nat → (Prop → Prop) → St → (St → Prop) → Prop
  | [], _, rm, σ, k => rm (k σ)
  | o :: r, i, rm, σ, k =>
    match o.guard with
    | none => match opD P E own (wrOf own path rid) ops (siteOf path rid i) (ev σ.tm) (lkD (wrOf own path rid) path rid n bef ops i σ.sto) o with
      | some e => br e.chk (withPre e.pre (goD P E own path rid n bef ops r (i + 1) (fun X => rm (br e.room X True)) (appEff o.dst σ e.val e.upd) k)) False
      | none => False
    | some (j, want) => match (ops[j]?).bind (·.dst) with
      | none => False
      | some d => match get σ.tm d with
        | .bool b => match want with
          | true => br b (match opD P E own (wrOf own path rid) ops (siteOf path rid i) (ev (σ.tm.set d (.bool true))) (lkD (wrOf own path rid) path rid n bef ops i σ.sto) o with
              | some e => br e.chk (withPre e.pre (goD P E own path rid n bef ops r (i + 1) (fun X => rm (br e.room X True)) (appEff o.dst { σ with tm := σ.tm.set d (.bool true) } e.val e.upd) k)) False
              | none => False)
              (goD P E own path rid n bef ops r (i + 1) rm (appEff o.dst { σ with tm := σ.tm.set d (.bool false) } .skip []) k)
          | false => br b (goD P E own path rid n bef ops r (i + 1) rm (appEff o.dst { σ with tm := σ.tm.set d (.bool true) } .skip []) k)
              (match opD P E own (wrOf own path rid) ops (siteOf path rid i) (ev (σ.tm.set d (.bool false))) (lkD (wrOf own path rid) path rid n bef ops i σ.sto) o with
              | some e => br e.chk (withPre e.pre (goD P E own path rid n bef ops r (i + 1) (fun X => rm (br e.room X True)) (appEff o.dst { σ with tm := σ.tm.set d (.bool false) } e.val e.upd) k)) False
              | none => False)
        | .skip => goD P E own path rid n bef ops r (i + 1) rm (appEff o.dst σ .skip []) k
        | _ => False

def iter {V : Type} (step : (V → Prop) → V → Prop) : Nat → V → Prop
  | 0 => fun _ => False
  | n + 1 => step (iter step n)
/-- A loop comes to an end. -/
inductive LoopP {V : Type} (step : (V → Prop) → V → Prop) (v : V) : Prop where
  | mk (n : Nat) (h : iter step n v) : LoopP step v

/-! ### loops -/
inductive Tpl where
  | data (agg : Bool) (s : Sch)
  | keep
  | ref (o : Nat)
  | ptr (o : Nat)
inductive CTpl where
  | data (s : Sch)
  | ref (o : Nat)
  | hnd (m : Bool) (o : Nat)
inductive OTpl where
  | keep
  | arr (m : Mode) (s : Sch)
  | cells (l : List CTpl)
  | via (t : Nat) (l : List CTpl)
  | map (ka va : Bool) (ks vs : Sch)
  | it (mo : Nat) (ks vs : Sch)

structure LAnn where
  tms : List (Nat × Tpl)
  obs : List (Nat × OTpl)
  fz : List Nat

@[reducible] def schC : List CTpl → Sch → Sch
  | [], z => z
  | .data s :: r, z => .pair s (schC r z)
  | .ref _ :: r, z => schC r z
  | .hnd _ _ :: r, z => schC r z
@[reducible] def schO : List (Nat × OTpl) → Sch
  | [] => .unit
  | (_, .keep) :: r => schO r
  | (_, .arr _ s) :: r => .pair (.sl s) (schO r)
  | (_, .cells l) :: r => schC l (schO r)
  | (_, .via _ l) :: r => schC l (schO r)
  | (_, .map _ _ ks vs) :: r => .pair (.sl (.pair ks vs)) (schO r)
  | (_, .it _ ks vs) :: r => .pair (.sl (.pair ks vs)) (schO r)
@[reducible] def schT : List (Nat × Tpl) → List (Nat × OTpl) → Sch
  | [], obs => schO obs
  | (_, .data _ s) :: r, obs => .pair s (schT r obs)
  | (_, _) :: r, obs => schT r obs
@[reducible] def LAnn.S (A : LAnn) : Sch := schT A.tms A.obs

/-- Does a value name only listed objects (l), slices under construction only where they are kept (q)? -/
def closed0 (l q : List Nat) : AV → Bool
  | .ref o _ => q.contains o
  | .ptr o _ => l.contains o
  | .ptre o _ _ _ => q.contains o
  | .vw o _ _ => q.contains o
  | .pix o _ _ _ _ _ => l.contains o
  | .hnd _ o => l.contains o
  | .fn _ cap => cap.all l.contains
  | .agg _ => false
  | .tup _ => false
  | _ => true
def closed1 (l q : List Nat) : AV → Bool
  | .agg cs => cs.all (closed0 l q)
  | v => closed0 l q v
def closed (l q : List Nat) : AV → Bool
  | .tup vs => vs.all (closed1 l q)
  | v => closed1 l q v

def isRef (look : Nat → Option Ob) (o : Nat) : AV → Bool
  | .ref p ver => p == o && (match look o with
    | some (.arr _ ver' _ _) => ver == ver'
    | _ => false)
  | .nils => (look o).isNone
  | _ => false

def AV.dead : AV → Bool
  | .undef => true
  | _ => false

def extC (look : Nat → Option Ob) (l : List Nat) {z : Sch} (y : z.D) : (ts : List CTpl) → List AV → Option (schC ts z).D
  | [], [] => some y
  | .data s :: r, v :: vs => match decTy look (false, s) v, extC look l y r vs with
    | some x, some y' => some (x, y')
    | _, _ => none
  | .ref o :: r, v :: vs => if isRef look o v && l.contains o then extC look l y r vs else none
  | .hnd m o :: r, v :: vs => match v with
    | .hnd m' o' => if decide (m' = m ∧ o' = o) && l.contains o then extC look l y r vs else none
    | _ => none
  | _, _ => none

def castM {ks ks' vs vs' : Sch} (h1 : ks' = ks) (h2 : vs' = vs) (xs : List (ks'.D × vs'.D)) : List (ks.D × vs.D) := h1 ▸ h2 ▸ xs

/-- The objects' part. -/
def extO (l : List Nat) (σ : St) : (obs : List (Nat × OTpl)) → Option (schO obs).D
  | [] => some ()
  | (o, .keep) :: r => extO l σ r
  | (o, .arr m s) :: r => match lk o σ.sto with
    | some (.arr m' _ s' xs) => if h : s' = s then
        (if m' = m then (match extO l σ r with
          | some y => some ((h ▸ xs : List s.D), y)
          | none => none) else none) else none
    | some _ => none
    | none => if m.fix ≠ none ∨ s.size = 0 then none else match extO l σ r with
      | some y => some (([] : List s.D), y)
      | none => none
  | (o, .cells cs) :: r => match lk o σ.sto with
    | some (.cells false vs) => match extO l σ r with
      | some y => extC (fun p => lk p σ.sto) l y cs vs
      | none => none
    | _ => none
  | (o, .map ka va ks vs) :: r => match lk o σ.sto with
    | some (.map _ ka' va' ks' vs' xs) => if h1 : ks' = ks then (if h2 : vs' = vs then (if ka' = ka ∧ va' = va then (match extO l σ r with
      | some y => some (castM h1 h2 xs, y)
      | none => none) else none) else none) else none
    | _ => none
  | (o, .it mo ks vs) :: r => match lk o σ.sto, lk mo σ.sto with
    | some (.it mo' ver ks' vs' left _), some (.map ver' _ _ _ _ _) => if h1 : ks' = ks then (if h2 : vs' = vs then (if mo' = mo ∧ ver' = ver then (match extO l σ r with
      | some y => some (castM h1 h2 left, y)
      | none => none) else none) else none) else none
    | _, _ => none
  | (_, .via t cs) :: r => match get σ.tm t with
    | .ptr p 0 => match lk p σ.sto with
      | some (.cells false vs) => match extO l σ r with
        | some y => extC (fun p => lk p σ.sto) l y cs vs
        | none => none
      | _ => none
    | _ => none

/-- The object that a listed one is, in this state. -/
def actual1 (σ : St) : Nat × OTpl → Nat
  | (_, .via t _) => (match get σ.tm t with
    | .ptr p _ => p
    | _ => 0)
  | (o, _) => o

def nodupN : List Nat → Bool
  | [] => true
  | a :: r => !(r.contains a) && nodupN r

def viaOf (t o : Nat) : List (Nat × OTpl) → Bool
  | [] => false
  | (p, .via u _) :: r => (p == o && u == t) || viaOf t o r
  | _ :: r => viaOf t o r

def extT (l : List Nat) (σ : St) : (tms : List (Nat × Tpl)) → (obs : List (Nat × OTpl)) → Option (schT tms obs).D
  | [], obs => extO l σ obs
  | (t, .data ag s) :: r, obs => match decTy (fun p => lk p σ.sto) (ag, s) (get σ.tm t), extT l σ r obs with
    | some x, some y => some (x, y)
    | _, _ => none
  | (t, .keep) :: r, obs => extT l σ r obs
  | (t, .ref o) :: r, obs => if isRef (fun p => lk p σ.sto) o (get σ.tm t) && l.contains o then extT l σ r obs else none
  | (t, .ptr o) :: r, obs => if viaOf t o obs then extT l σ r obs else none

def mkC {z : Sch} : (l : List CTpl) → (schC l z).D → List AV × z.D
  | [], y => ([], y)
  | .data s :: r, y => let q := mkC r y.2
    (encTy (false, s) y.1 :: q.1, q.2)
  | .ref o :: r, y => let q := mkC r y
    (.ref o 0 :: q.1, q.2)
  | .hnd m o :: r, y => let q := mkC r y
    (.hnd m o :: q.1, q.2)

def verM (mo : Nat) (σ : St) : Nat := match lk mo σ.sto with
  | some (.map ver _ _ _ _ _) => ver
  | _ => 0
def mkO (σ0 : St) : (obs : List (Nat × OTpl)) → (schO obs).D → List (Nat × Ob)
  | [], _ => []
  | (o, .keep) :: r, y => match lk o σ0.sto with
    | some ob => (o, ob) :: mkO σ0 r y
    | none => mkO σ0 r y
  | (o, .arr m s) :: r, y => (o, .arr m 0 s y.1) :: mkO σ0 r y.2
  | (o, .cells l) :: r, y => let q := mkC l y
    (o, .cells false q.1) :: mkO σ0 r q.2
  | (o, .via _ l) :: r, y => let q := mkC l y
    (o, .cells false q.1) :: mkO σ0 r q.2
  | (o, .map ka va ks vs) :: r, y => (o, .map 0 ka va ks vs y.1) :: mkO σ0 r y.2
  | (o, .it mo ks vs) :: r, y => (o, .it mo (verM mo σ0) ks vs y.1 []) :: mkO σ0 r y.2

def mkT (σ0 : St) : (tms : List (Nat × Tpl)) → (obs : List (Nat × OTpl)) → (schT tms obs).D → Tm → Tm × List (Nat × Ob)
  | [], obs, y, tm => (tm, mkO σ0 obs y)
  | (t, .data ag s) :: r, obs, y, tm => mkT σ0 r obs y.2 (tm.set t (encTy (ag, s) y.1))
  | (t, .keep) :: r, obs, y, tm => mkT σ0 r obs y (tm.set t (get σ0.tm t))
  | (t, .ref o) :: r, obs, y, tm => mkT σ0 r obs y (tm.set t (.ref o 0))
  | (t, .ptr o) :: r, obs, y, tm => mkT σ0 r obs y (tm.set t (.ptr o 0))

def LAnn.ids (A : LAnn) : List Nat := A.obs.map (·.1)
/-- Objects that are listed under their own number. -/
def ownO : List (Nat × OTpl) → List Nat
  | [] => []
  | (_, .via _ _) :: r => ownO r
  | (o, _) :: r => o :: ownO r
def keptO : List (Nat × OTpl) → List Nat
  | [] => []
  | (o, .keep) :: r => o :: keptO r
  | _ :: r => keptO r

def LAnn.ext (A : LAnn) (σ : St) : Option A.S.D :=
  if nodupN (A.obs.map (actual1 σ)) then extT (ownO A.obs) σ A.tms A.obs else none

/-- At the loop's entry: what is kept names nothing that is not listed. -/
def LAnn.okAt (A : LAnn) (σ : St) : Bool :=
  nodupN A.ids &&
  (A.tms.all fun p => match p.2 with
    | .keep => closed (ownO A.obs) (keptO A.obs) (get σ.tm p.1)
    | _ => true) &&
  (A.obs.all fun p => match p.2 with
    | .keep => (match lk p.1 σ.sto with
      | some (.cells _ cs) => cs.all (closed0 (ownO A.obs) (keptO A.obs))
      | some (.arr _ _ _ _) => true
      | some (.map _ _ _ _ _ _) => true
      | some (.it mo _ _ _ _ _) => (keptO A.obs).contains mo
      | none => false)
    | .it mo _ _ => (keptO A.obs).contains mo
    | _ => true) &&
  (σ.outs.all fun l => l.all (closed (ownO A.obs) (keptO A.obs))) && nodupN (A.tms.map (·.1))

/-- Behind a round: what is kept has not been turned. -/
def LAnn.keepOK (A : LAnn) (σ0 σ : St) : Bool :=
  decide (σ.lps = σ0.lps) &&
  (A.tms.all fun p => match p.2 with
    | .keep => !(σ.dt.contains p.1) && !((get σ.tm p.1).dead && !((get σ0.tm p.1).dead))
    | _ => true) &&
  (A.obs.all fun p => match p.2 with
    | .keep => !(σ.dob.contains p.1) && (lk p.1 σ.sto).isSome
    | _ => true)

/-- The slices under construction that are read as data at the loop's head. -/
def cellRefs : List CTpl → List AV → List Nat
  | .data _ :: r, v :: vs => refsOf v ++ cellRefs r vs
  | _ :: r, _ :: vs => cellRefs r vs
  | _, _ => []
def LAnn.refs (A : LAnn) (σ : St) : List Nat :=
  (A.tms.flatMap fun p => match p.2 with
    | .data _ _ => refsOf (get σ.tm p.1)
    | _ => []) ++
  (A.obs.flatMap fun p => match p.2 with
    | .arr .grow _ => [p.1]
    | .cells cs => (match lk p.1 σ.sto with
      | some (.cells _ vs) => cellRefs cs vs
      | _ => [])
    | .via _ cs => (match lk (actual1 σ p) σ.sto with
      | some (.cells _ vs) => cellRefs cs vs
      | _ => [])
    | _ => [])

def LAnn.mk' (A : LAnn) (σ0 : St) (v : A.S.D) : St :=
  let q := mkT σ0 A.tms A.obs v (Tm.none σ0.tm.length)
  { tm := q.1, outs := σ0.outs, sto := q.2, dt := [], dob := [], lps := σ0.lps }

def dataT : List (Nat × Tpl) → List Nat
  | [] => []
  | (t, .data _ _) :: r => t :: dataT r
  | (t, .ref _) :: r => t :: dataT r
  | (t, .ptr _) :: r => t :: dataT r
  | (_, .keep) :: r => dataT r
def dataO : List (Nat × OTpl) → List Nat
  | [] => []
  | (_, .keep) :: r => dataO r
  | (o, _) :: r => o :: dataO r

def LAnn.after (A : LAnn) (σ0 σ : St) : St := { σ with dt := σ.dt ++ (dataT A.tms ++ σ0.dt), dob := σ.dob ++ (dataO A.obs ++ σ0.dob) }

structure Anns where
  loops : List (Nat × LAnn)
  own : List Nat
  unroll : Nat := 0
def alk (n : Nat) : List (Nat × LAnn) → Option LAnn
  | [] => none
  | (m, a) :: r => if m = n then some a else alk n r

/-- What follows a join is looked at once. -/
structure JoinQ {V : Type} (A : (V → Prop) → Prop) (B : V → Prop) : Prop where
  out : A B

/-- All operations from one on are surely done behind all earlier ones. -/
def cutOK (ops : Array Oper) (N : Nat) : Bool := (List.range ops.size).all fun i => match decide (i < N) with
  | true => true
  | false => (List.range N).all fun m => ((befores ops.toList []).getD i []).contains m
/-- Where a statement that draws its order is cut into parts: as listed. -/
def cutsOf (own : List Nat) (path rid : Nat) (ops : Array Oper) : List Nat :=
  ((List.range ops.size).filter fun N => match decide (N = 0) with
    | true => false
    | false => own.contains (siteOf path rid (N + 512)) || (decide (N + 1 = ops.size) && own.contains (siteOf path rid N))) ++ [ops.size]
/-- The first operations have been done: their slots are turned. -/
def idSt (ops : Array Oper) (σ : St) : Nat → St
  | 0 => σ
  | m + 1 => match (ops[m]?).bind (·.dst) with
    | none => idSt ops σ m
    | some d => { idSt ops σ m with tm := (idSt ops σ m).tm.set d (get σ.tm d), dt := d :: (idSt ops σ m).dt }
/-- A statement that draws its order, part by part: a part of one operation is looked at as if its order were no question. -/
def goS (P : Program) (E : Env) (own : List Nat) (inlY : Inl1) (Y : Ys) (path rid : Nat) (ops : Array Oper) : List Nat → Nat → St → (St → Prop) → Prop
  | [], s, σ, k => match decide (s = ops.size) with
    | true => k σ
    | false => False
  | e :: r, s, σ, k => match decide (s < e) && (decide (e ≤ ops.size) && cutOK ops e) with
    | false => False
    | true => match decide (e = s + 1) with
      | true => goOps P E own inlY Y path rid ops ((ops.toList.take e).drop s) s σ fun σ' => goS P E own inlY Y path rid ops r e σ' k
      | false => goD P E own path rid ops.size (befores ops.toList []) ops ((ops.toList.take e).drop s) s (fun X => X) (idSt ops σ s) fun σ' => goS P E own inlY Y path rid ops r e σ' k

/-- The last statement's number. -/
def lastR : Code → Nat
  | .region rid _ _ => rid + 1
  | .seq a b => match lastR b with
    | 0 => lastR a
    | n => n
  | .block _ c => lastR c
  | .scope c => lastR c
  | .loop c => lastR c
  | .cond _ x y => match lastR y with
    | 0 => lastR x
    | n => n
  | _ => 0
def jkind : Code → Nat
  | .region _ _ _ => 0
  | .seq _ _ => 1
  | .block _ _ => 2
  | _ => 3
def jkey (path : Nat) (a : Code) : Nat := path * 1048576 + (524288 + (lastR a * 4 + jkind a))

def LAnn.after0 (σ0 σ : St) : St := { σ with dt := σ.dt ++ σ0.dt, dob := σ.dob ++ σ0.dob }

/-! ### loops over functions -/
def AV.noY0 (i : Nat) : AV → Bool
  | .yld j => !(j == i)
  | _ => true
def AV.noY1 (i : Nat) : AV → Bool
  | .agg cs => cs.all (AV.noY0 i)
  | v => v.noY0 i
def AV.noY (i : Nat) : AV → Bool
  | .tup vs => vs.all (AV.noY1 i)
  | v => v.noY1 i
def Ob.noY (i : Nat) : Ob → Bool
  | .cells _ cs => cs.all (AV.noY0 i)
  | _ => true
/-- Nothing names the function 'yield' of a loop. -/
def St.noY (i : Nat) (σ : St) : Bool := σ.tm.all (AV.noY i) && (σ.outs.all (fun l => l.all (AV.noY i)) && σ.sto.all fun p => p.2.noY i)
def lpAt (i : Nat) : List (Nat × LSt) → Option LSt
  | [] => none
  | (j, s) :: r => if j = i then some s else lpAt i r
def setLp (i : Nat) (x : LSt) : List (Nat × LSt) → List (Nat × LSt)
  | [] => []
  | (j, s) :: r => if j = i then (j, x) :: r else (j, s) :: setLp i x r
/-- The frame at a depth, from the outermost one on. -/
def frameAt (outs : List Tm) (d : Nat) : Option Tm := if d < outs.length then outs[outs.length - 1 - d]? else none
def setPs : List Tmp → List AV → Tm → Tm
  | t :: ts, v :: vs, tm => setPs ts vs (tm.set t v)
  | _, _, tm => tm
def loopId (path : Nat) (asg : Code) : Nat := path * 1048576 + (786432 + lastR asg)
def Ex.isNormal : Ex → Bool
  | .normal => true
  | _ => false
def Ex.toSt : Ex → LSt
  | .normal => .ready
  | e => .done e

/-- A list is written out anew (so that the kernel need not look through all that was put into it). -/
noncomputable def normL {α : Type} (l : List α) : (List α → Prop) → Prop := List.rec (motive := fun _ => (List α → Prop) → Prop) (fun k => k []) (fun x _ ih k => ih fun ys => k (x :: ys)) l
theorem normL_eq {α : Type} (l : List α) : ∀ k : List α → Prop, normL l k = k l := by
  induction l with
  | nil => intro k; rfl
  | cons x r ih => intro k; exact ih fun ys => k (x :: ys)
noncomputable def nrmSt (σ : St) (k : St → Prop) : Prop := normL σ.sto fun sto => k { tm := σ.tm, outs := σ.outs, sto := sto, dt := σ.dt, dob := σ.dob, lps := σ.lps }
theorem nrmSt_eq (σ : St) (k : St → Prop) : nrmSt σ k = k σ := by unfold nrmSt; rw [normL_eq]

noncomputable def run (P : Program) (E : Env) (A : Anns) (inl : Inl) (Y : Ys) (path : Nat) : Code → Nat → St → (Ex → St → Prop) → Prop
  | .skip, _, σ, k => k .normal σ
  | .ret, _, σ, k => k .ret σ
  | .exit i, _, σ, k => k (.exit i) σ
  | .label _, _, σ, k => k .normal σ
  | .scope c, n, σ, k => run P E A inl Y path c n σ k
  | .region rid ops draw, _, σ, k => nrmSt σ fun σ => match draw with
    | false => goOps P E A.own (inl Y) Y path rid ops ops.toList 0 σ (k .normal)
    | true => if drawOk ops then goS P E A.own (inl Y) Y path rid ops (cutsOf A.own path rid ops) 0 (preFrz ops σ) (k .normal) else False
  | .seq a b, n, σ, k => match alk (jkey path a) A.loops with
    | none => run P E A inl Y path a n σ fun e σ' => match e with
      | .normal => run P E A inl Y path b n σ' k
      | .exit i => k (.exit i) σ'
      | .ret => k .ret σ'
    | some L => if L.okAt σ then JoinQ (fun (G : L.S.D → Prop) => run P E A inl Y path a n { σ with dt := [], dob := [] } fun e σ1 => match e with
        | .normal => let σ' := frz (L.refs σ1) σ1
          if L.keepOK σ σ' then (match L.ext σ' with
          | some v => G v
          | none => False) else False
        | .exit i => k (.exit i) (LAnn.after0 σ σ1)
        | .ret => k .ret (LAnn.after0 σ σ1)) (fun v => run P E A inl Y path b n (L.mk' σ v) fun e σ2 => k e (L.after σ σ2)) else False
  | .cond c x y, n, σ, k => match ev σ.tm c with
    | .bool b => br b (run P E A inl Y path x n σ k) (run P E A inl Y path y n σ k)
    | _ => False
  | .block i c, _, σ, k => run P E A inl Y path c i σ fun e σ' => match e with
    | .exit j => if j = i then k .normal σ' else k (.exit j) σ'
    | .normal => k .normal σ'
    | .ret => k .ret σ'
  | .loop c, n, σ0, k => match alk (path * 1048576 + n) A.loops with
    | none => iter (fun (again : Nat × St → Prop) q => run P E A inl Y (path * 1099511627776 + (n * 65536 + q.1)) c n q.2 fun e σ1 => match e with
        | .normal => again (q.1 + 1, σ1)
        | .exit i => k (.exit i) σ1
        | .ret => k .ret σ1) A.unroll (1, σ0)
    | some L => let σ := frz (L.fz ++ L.refs σ0) σ0
      if L.okAt σ then (match L.ext σ with
      | none => False
      | some v0 => LoopP (fun again v => run P E A inl Y path c n (L.mk' σ v) fun e σ1 => match e with
        | .normal => let σ' := frz (L.refs σ1) σ1
          if L.keepOK σ σ' then (match L.ext σ' with
          | some v' => again v'
          | none => False) else False
        | .exit i => k (.exit i) (L.after σ σ1)
        | .ret => k .ret (L.after σ σ1)) v0) else False
  | .rangeFunc g ps asg body, n, σ, k => match ev σ.tm g with
    | .fn f cap => if σ.noY (loopId path asg) = true ∧ lpAt (loopId path asg) σ.lps = none then
        inl ((loopId path asg, fun site args σg k' => match frameAt σg.outs σ.outs.length with
          | none => False
          | some tm0 => if lpAt (loopId path asg) σg.lps = some .ready ∧ args.length = ps.size then
              run P E A inl Y site asg n { tm := setPs ps.toList args tm0, outs := σg.tm :: σg.outs, sto := σg.sto, dt := [], dob := σg.dob, lps := σg.lps } fun e σ1 => match e with
                | .normal => if lpAt (loopId path asg) σ1.lps = some .ready then run P E A inl Y site body n { σ1 with lps := setLp (loopId path asg) .busy σ1.lps } fun e σ2 =>
                    if lpAt (loopId path asg) σ2.lps = some .busy then
                      k' (.bool e.isNormal) { tm := σg.tm, outs := σg.outs, sto := σ2.sto, dt := σg.dt, dob := σ2.dob, lps := setLp (loopId path asg) e.toSt σ2.lps }
                    else False
                  else False
                | _ => False
            else False) :: Y) (loopId path asg) f (.yld (loopId path asg) :: cap.map fun p => .ptr p 0) { σ with lps := (loopId path asg, .ready) :: σ.lps } fun _ σ' =>
          match σ'.lps with
          | (i, st) :: rest => if i = loopId path asg ∧ rest = σ.lps then (match st with
              | .ready => k .normal { σ' with lps := rest }
              | .done e => k e { σ' with lps := rest }
              | .busy => False) else False
          | [] => False
      else False
    | _ => False
  | _, _, _, _ => False

def AV.noTup : AV → Bool
  | .tup _ => false
  | _ => true

def results (P : Program) (σ : St) : List ResultVar → Option (Bool × List AV)
  | [] => some (true, [])
  | .tmp t :: r => match (get σ.tm t).noTup, results P σ r with
    | true, some l => some (l.1, get σ.tm t :: l.2)
    | _, _ => none
  | .cell a t :: r => match readPtr (fun o => lk o σ.sto) (szOf P t) (get σ.tm a), results P σ r with
    | some q, some l => if okT P t then some (q.1 && l.1, wrapAgg (isAggT P t) q.2 :: l.2) else none
    | _, _ => none

def pack : List AV → AV
  | [v] => v
  | vs => .tup vs

/-- A call that takes its slices over: where it is listed, the caller does not know them any more. -/
def strip (q : List Nat) : AV → AV
  | .ref o v => match q.contains o with
    | true => .undef
    | false => .ref o v
  | a => a
def stripAt (own : List Nat) (site : Nat) (args : List AV) (tm : Tm) : Tm := match own.contains (siteOf site 0 904) with
  | false => tm
  | true => tm.map (strip (args.flatMap refsOf))

/-- Calls that are entered, so many levels deep. -/
def inlN (P : Program) (E : Env) (A : Anns) : Nat → Inl
  | 0 => fun _ _ _ _ _ _ => False
  | d + 1 => fun Y site f args σ k => match P.funcs[f]? with
    | none => False
    | some fn => match fn.body with
      | none => False
      | some c => run P E A (inlN P E A d) Y site c 0
          { tm := Tm.args args fn.ntmps, outs := stripAt A.own site args σ.tm :: σ.outs, sto := σ.sto, dt := [], dob := σ.dob, lps := σ.lps }
          fun e σ' => match e with
            | .exit _ => False
            | _ => match results P σ' fn.results.toList with
              | none => False
              | some vs => br vs.1 (k (pack vs.2) { tm := stripAt A.own site args σ.tm, outs := σ.outs, sto := σ'.sto, dt := σ.dt, dob := σ'.dob, lps := σ'.lps }) False

/-- What a function returns, read as data. -/
def finF (P : Program) (fn : Func) (cods : List Ty) (σ : St) (K : (tyS cods).D → Prop) : Prop := match results P σ fn.results.toList with
  | none => False
  | some vs => match decs (fun o => lk o (frz (vs.2.flatMap refsOf) σ).sto) cods vs.2 with
    | some y => br vs.1 (K y) False
    | none => False

/-- A function as an entry. -/
def runF (P : Program) (E : Env) (A : Anns) (d : Nat) (fn : Func) (doms cods : List Ty) (x : (tyS doms).D) (K : (tyS cods).D → Prop) : Prop :=
  match fn.body with
  | none => False
  | some c => run P E A (inlN P E A d) [] 1 c 0 { tm := Tm.args (encs doms x) fn.ntmps, outs := [], sto := [], dt := [], dob := [] }
      fun e σ => match e with
        | .exit _ => False
        | _ => finF P fn cods σ K

/-- A closure is handed its captured variable by its place. -/
def cloA1 : AV → AV
  | .sl _ s xs => .pel s xs 0 0
  | v => v
def cloA : List AV → List AV
  | [] => []
  | [v] => [cloA1 v]
  | v :: v' :: r => v :: cloA (v' :: r)
def runC (P : Program) (E : Env) (A : Anns) (d : Nat) (fn : Func) (doms cods : List Ty) (x : (tyS doms).D) (K : (tyS cods).D → Prop) : Prop :=
  match fn.body with
  | none => False
  | some c => run P E A (inlN P E A d) [] 1 c 0 { tm := Tm.args (cloA (encs doms x)) fn.ntmps, outs := [], sto := [], dt := [], dob := [] }
      fun e σ => match e with
        | .exit _ => False
        | _ => finF P fn cods σ K

/-- The one slice that is returned has no room behind it. -/
def finX : (cods : List Ty) → List AV → ((tyS cods).D → Prop) → Prop
  | [(false, .sl s)], [.sl true s' xs], K => if h : s' = s then K (h ▸ xs : List s.D) else False
  | _, _, _ => False

def runX (P : Program) (E : Env) (A : Anns) (d : Nat) (fn : Func) (doms cods : List Ty) (x : (tyS doms).D) (K : (tyS cods).D → Prop) : Prop :=
  match fn.body with
  | none => False
  | some c => run P E A (inlN P E A d) [] 1 c 0 { tm := Tm.args (encs doms x) fn.ntmps, outs := [], sto := [], dt := [], dob := [] }
      fun e σ => match e with
        | .exit _ => False
        | _ => match results P σ fn.results.toList with
          | none => False
          | some vs => br vs.1 (finX cods vs.2 K) False

/-- The one slice that is returned is nobody else's. -/
def finU (look : Nat → Option Ob) : (cods : List Ty) → List AV → ((tyS cods).D → Prop) → Prop
  | [(false, .sl s)], [.ref o ver], K => match look o with
    | some (.arr .uniq ver' s' xs) => if ver = ver' then (if h : s' = s then K (h ▸ xs : List s.D) else False) else False
    | _ => False
  | [(false, .sl s)], [.nils], K => if 0 < s.size then K ([] : List s.D) else False
  | _, _, _ => False

def runU (P : Program) (E : Env) (A : Anns) (d : Nat) (fn : Func) (doms cods : List Ty) (x : (tyS doms).D) (K : (tyS cods).D → Prop) : Prop :=
  match fn.body with
  | none => False
  | some c => run P E A (inlN P E A d) [] 1 c 0 { tm := Tm.args (encs doms x) fn.ntmps, outs := [], sto := [], dt := [], dob := [] }
      fun e σ => match e with
        | .exit _ => False
        | _ => match results P σ fn.results.toList with
          | none => False
          | some vs => br vs.1 (finU (fun o => lk o σ.sto) cods vs.2 K) False

end
end Go.Pi
end

section
namespace Go.Pi
set_option linter.unusedVariables false
set_option linter.unusedSimpArgs false
open Go.RowKit

def All2 {α β : Type} (R : α → β → Prop) : List α → List β → Prop
  | [], [] => True
  | a :: l, b :: m => R a b ∧ All2 R l m
  | _, _ => False

section all2
variable {α β : Type} {R : α → β → Prop}
theorem All2.length : ∀ {l : List α} {m : List β}, All2 R l m → l.length = m.length
  | [], [], _ => rfl
  | _ :: _, _ :: _, h => by simp [All2.length h.2]
  | [], _ :: _, h => h.elim
  | _ :: _, [], h => h.elim
theorem All2.imp {R' : α → β → Prop} (f : ∀ a b, R a b → R' a b) : ∀ {l : List α} {m : List β}, All2 R l m → All2 R' l m
  | [], [], _ => trivial
  | _ :: _, _ :: _, h => ⟨f _ _ h.1, All2.imp f h.2⟩
  | [], _ :: _, h => h.elim
  | _ :: _, [], h => h.elim
theorem All2.append : ∀ {l l' : List α} {m m' : List β}, All2 R l m → All2 R l' m' → All2 R (l ++ l') (m ++ m')
  | [], _, [], _, _, h' => h'
  | _ :: _, _, _ :: _, _, h, h' => ⟨h.1, All2.append h.2 h'⟩
  | [], _, _ :: _, _, h, _ => h.elim
  | _ :: _, _, [], _, h, _ => h.elim
theorem All2.take (n : Nat) : ∀ {l : List α} {m : List β}, All2 R l m → All2 R (l.take n) (m.take n) := by
  induction n with
  | zero => intro l m _; simp [All2]
  | succ n ih =>
    intro l m h
    cases l <;> cases m <;> simp_all [All2]
theorem All2.drop (n : Nat) : ∀ {l : List α} {m : List β}, All2 R l m → All2 R (l.drop n) (m.drop n) := by
  induction n with
  | zero => intro l m h; simpa using h
  | succ n ih =>
    intro l m h
    cases l <;> cases m <;> simp_all [All2]
theorem All2.get : ∀ {l : List α} {m : List β}, All2 R l m → ∀ (i : Nat) (a : α), l[i]? = some a → ∃ b, m[i]? = some b ∧ R a b
  | [], [], _, i, a, h => by simp at h
  | x :: l, y :: m, h, 0, a, e => by
    simp at e
    exact ⟨y, by simp, e ▸ h.1⟩
  | x :: l, y :: m, h, i + 1, a, e => by
    obtain ⟨b, hb, hr⟩ := All2.get h.2 i a (by simpa using e)
    exact ⟨b, by simpa using hb, hr⟩
  | [], _ :: _, h, _, _, _ => h.elim
  | _ :: _, [], h, _, _, _ => h.elim
theorem All2.get' : ∀ {l : List α} {m : List β}, All2 R l m → ∀ (i : Nat) (b : β), m[i]? = some b → ∃ a, l[i]? = some a ∧ R a b
  | [], [], _, i, a, h => by simp at h
  | x :: l, y :: m, h, 0, a, e => by
    simp at e
    exact ⟨x, by simp, e ▸ h.1⟩
  | x :: l, y :: m, h, i + 1, a, e => by
    obtain ⟨b, hb, hr⟩ := All2.get' h.2 i a (by simpa using e)
    exact ⟨b, by simpa using hb, hr⟩
  | [], _ :: _, h, _, _, _ => h.elim
  | _ :: _, [], h, _, _, _ => h.elim
theorem All2.of_get : ∀ {l : List α} {m : List β}, l.length = m.length → (∀ (i : Nat) (a : α) (b : β), l[i]? = some a → m[i]? = some b → R a b) → All2 R l m
  | [], [], _, _ => trivial
  | x :: l, y :: m, h, f => ⟨f 0 x y (by simp) (by simp), All2.of_get (by simpa using h) fun i a b ha hb => f (i + 1) a b (by simpa using ha) (by simpa using hb)⟩
  | [], _ :: _, h, _ => by simp at h
  | _ :: _, [], h, _ => by simp at h
theorem All2.map {γ : Type} (f : γ → α) : ∀ {l : List γ} {m : List β}, All2 (fun a b => R (f a) b) l m → All2 R (l.map f) m
  | [], [], _ => trivial
  | _ :: _, _ :: _, h => ⟨h.1, All2.map f h.2⟩
  | [], _ :: _, h => h.elim
  | _ :: _, [], h => h.elim
end all2

/-! ### values of one cell -/
def Leaf (v : Value) : Prop := match v with
  | .agg _ => False
  | .tuple _ => False
  | _ => True
theorem Leaf.cells {v : Value} (h : Leaf v) : v.cells = #[v] := by
  cases v <;> first | rfl | exact h.elim

/-! ### typed data in memory -/
abbrev Cells := Nat → Nat → Prop

def DR (S : Cells) (w : World) : (s : Sch) → s.D → List Value → Prop
  | .unit, _, vs => vs = []
  | .int k, n, vs => vs = [.int k n]
  | .bool, b, vs => vs = [.bool b]
  | .str, b, vs => vs = [.string b]
  | .sl s, xs, vs => ∃ a cap, vs = [.slice a xs.length cap] ∧ xs.length ≤ cap ∧ cap ≤ 9223372036854775807 ∧
      (0 < xs.length → ∃ b off, a = some ⟨b, off, none⟩ ∧ ∀ (i : Nat) (x : s.D), xs[i]? = some x →
        ∃ ws, DR S w s x ws ∧ ∀ (j : Nat) (v : Value), ws[j]? = some v → S b (off + i * s.size + j) ∧ w.cell? ⟨b, off + i * s.size + j, none⟩ = some v)
  | .pair p q, x, vs => ∃ l r, vs = l ++ r ∧ DR S w p x.1 l ∧ DR S w q x.2 r

/-- The elements of a slice lie from cell 'off' of block b on. -/
def ElR (S : Cells) (w : World) (s : Sch) (xs : List s.D) (b off : Nat) : Prop :=
  ∀ (i : Nat) (x : s.D), xs[i]? = some x →
    ∃ ws, DR S w s x ws ∧ ∀ (j : Nat) (v : Value), ws[j]? = some v → S b (off + i * s.size + j) ∧ w.cell? ⟨b, off + i * s.size + j, none⟩ = some v

theorem DR.length {S : Cells} {w : World} : ∀ {s : Sch} {x : s.D} {vs : List Value}, DR S w s x vs → vs.length = s.size
  | .unit, _, _, h => by simp [DR] at h; simp [h, Sch.size]
  | .int _, _, _, h => by simp [DR] at h; simp [h, Sch.size]
  | .bool, _, _, h => by simp [DR] at h; simp [h, Sch.size]
  | .str, _, _, h => by simp [DR] at h; simp [h, Sch.size]
  | .sl _, _, _, h => by obtain ⟨a, cap, rfl, _⟩ := h; simp [Sch.size]
  | .pair p q, x, _, h => by
    obtain ⟨l, r, rfl, hl, hr⟩ := h
    simp [Sch.size, DR.length hl, DR.length hr]

theorem DR.leaf {S : Cells} {w : World} : ∀ {s : Sch} {x : s.D} {vs : List Value}, DR S w s x vs → ∀ v ∈ vs, Leaf v
  | .unit, _, _, h => by simp [DR] at h; simp [h]
  | .int _, _, _, h => by simp [DR] at h; simp [h, Leaf]
  | .bool, _, _, h => by simp [DR] at h; simp [h, Leaf]
  | .str, _, _, h => by simp [DR] at h; simp [h, Leaf]
  | .sl _, _, _, h => by obtain ⟨a, cap, rfl, _⟩ := h; simp [Leaf]
  | .pair p q, x, _, h => by
    obtain ⟨l, r, rfl, hl, hr⟩ := h
    intro v hv
    rcases List.mem_append.1 hv with hv | hv
    · exact DR.leaf hl v hv
    · exact DR.leaf hr v hv

/-- What is marked stays as it was. -/
def Keeps (S : Cells) (w : World) (S' : Cells) (w' : World) : Prop :=
  ∀ b o, S b o → S' b o ∧ w'.cell? ⟨b, o, none⟩ = w.cell? ⟨b, o, none⟩
theorem Keeps.refl (S : Cells) (w : World) : Keeps S w S w := fun _ _ h => ⟨h, rfl⟩
theorem Keeps.trans {S S' S'' : Cells} {w w' w'' : World} (h : Keeps S w S' w') (h' : Keeps S' w' S'' w'') : Keeps S w S'' w'' :=
  fun b o k => ⟨(h' b o (h b o k).1).1, ((h' b o (h b o k).1).2).trans (h b o k).2⟩

theorem DR.mono {S S' : Cells} {w w' : World} (hk : Keeps S w S' w') : ∀ {s : Sch} {x : s.D} {vs : List Value}, DR S w s x vs → DR S' w' s x vs
  | .unit, _, _, h => h
  | .int _, _, _, h => h
  | .bool, _, _, h => h
  | .str, _, _, h => h
  | .sl s, xs, _, h => by
    obtain ⟨a, cap, rfl, hc, hc2, h⟩ := h
    refine ⟨a, cap, rfl, hc, hc2, fun hp => ?_⟩
    obtain ⟨b, off, ha, he⟩ := h hp
    refine ⟨b, off, ha, fun i x hx => ?_⟩
    obtain ⟨ws, hd, hw⟩ := he i x hx
    refine ⟨ws, DR.mono hk hd, fun j v hv => ?_⟩
    obtain ⟨h1, h2⟩ := hw j v hv
    exact ⟨(hk _ _ h1).1, (hk _ _ h1).2.trans h2⟩
  | .pair p q, x, _, h => by
    obtain ⟨l, r, rfl, hl, hr⟩ := h
    exact ⟨l, r, rfl, DR.mono hk hl, DR.mono hk hr⟩

theorem ElR.mono {S S' : Cells} {w w' : World} (hk : Keeps S w S' w') {s : Sch} {xs : List s.D} {b off : Nat} (h : ElR S w s xs b off) : ElR S' w' s xs b off := by
  intro i x hx
  obtain ⟨ws, hd, hw⟩ := h i x hx
  refine ⟨ws, DR.mono hk hd, fun j v hv => ?_⟩
  obtain ⟨h1, h2⟩ := hw j v hv
  exact ⟨(hk _ _ h1).1, (hk _ _ h1).2.trans h2⟩

def TyV (S : Cells) (w : World) (t : Ty) (x : t.2.D) (v : Value) : Prop := match t.1 with
  | true => ∃ vs : Array Value, v = .agg vs ∧ DR S w t.2 x vs.toList
  | false => DR S w t.2 x [v]

theorem TyV.mono {S S' : Cells} {w w' : World} (hk : Keeps S w S' w') {t : Ty} {x : t.2.D} {v : Value} (h : TyV S w t x v) : TyV S' w' t x v := by
  obtain ⟨ag, s⟩ := t
  cases ag with
  | true =>
    obtain ⟨vs, e, hd⟩ := h
    exact ⟨vs, e, DR.mono hk hd⟩
  | false =>
    have h : DR S w s x [v] := h
    exact DR.mono hk h

/-- An entry of a map. -/
def EntR (S : Cells) (w : World) (ka va : Bool) (ks vs : Sch) (x : ks.D × vs.D) (e : MapEntry) : Prop := TyV S w (ka, ks) x.1 e.key ∧ TyV S w (va, vs) x.2 e.val

def MapR (S : Cells) (w : World) (ka va : Bool) (ks vs : Sch) (xs : List (ks.D × vs.D)) (es : Array MapEntry) (clock : Nat) : Prop :=
  All2 (EntR S w ka va ks vs) xs es.toList ∧ (∀ e ∈ es.toList, e.born < clock) ∧ (es.toList.map (·.born)).Nodup

theorem EntR.mono {S S' : Cells} {w w' : World} (hk : Keeps S w S' w') {ka va : Bool} {ks vs : Sch} {x : ks.D × vs.D} {e : MapEntry} (h : EntR S w ka va ks vs x e) : EntR S' w' ka va ks vs x e := ⟨TyV.mono hk h.1, TyV.mono hk h.2⟩

/-! ### values -/
/-- The blocks that F names stay as they were. -/
structure Bel (F : Nat → Prop) (w w' : World) : Prop where
  os : w'.os = w.os
  tape : w'.tape = w.tape
  output : w'.output = w.output
  size : w.heap.size ≤ w'.heap.size
  block : ∀ k, F k → w'.heap[k]? = w.heap[k]?
  dr : w.drawn ≤ w'.drawn

theorem Bel.refl (F : Nat → Prop) (w : World) : Bel F w w := ⟨rfl, rfl, rfl, Nat.le_refl _, fun _ _ => rfl, Nat.le_refl _⟩
theorem Bel.trans {F : Nat → Prop} {a b c : World} (h : Bel F a b) (k : Bel F b c) : Bel F a c :=
  ⟨k.os.trans h.os, k.tape.trans h.tape, k.output.trans h.output, Nat.le_trans h.size k.size, fun i hi => (k.block i hi).trans (h.block i hi), Nat.le_trans h.dr k.dr⟩
theorem Bel.mono {F F' : Nat → Prop} {w w' : World} (h : Bel F w w') (hF : ∀ k, F' k → F k) : Bel F' w w' := ⟨h.os, h.tape, h.output, h.size, fun k hk => h.block k (hF k hk), h.dr⟩
theorem Bel.drew {F : Nat → Prop} {a w : World} (h : Bel F a w) : Bel F a w.drew := ⟨h.os, h.tape, h.output, h.size, h.block, Nat.le_succ_of_le h.dr⟩
theorem Bel.alloc {F : Nat → Prop} {a w : World} (h : Bel F a w) (hB : ∀ b, F b → b < w.heap.size) (o : Obj) : Bel F a (w.alloc o) :=
  h.trans ⟨rfl, rfl, rfl, by simp, fun k hk => Below.heap_alloc _ _ _ (hB k hk), Nat.le_refl _⟩
theorem Bel.below {B : Nat} {w w' : World} (h : Bel (· < B) w w') : Below B w w' := ⟨h.os, h.tape, h.output, h.size, h.block⟩

structure Gh where
  S : Cells
  M : Nat → Option (Nat × Nat)
  Y : Nat → Option Nat := fun _ => none

abbrev Look := Nat → Option Ob

/-- A slice under construction, as a value. -/
def RefV (m : Option (Nat × Nat)) (n : Nat) (v : Value) : Prop := match m with
  | some (b, cap) => v = .slice (some ⟨b, 0, none⟩) n cap
  | none => n = 0 ∧ v = .slice none 0 0

/-- What lies from element lo on of a slice under construction, as a value. -/
def VwV (m : Option (Nat × Nat)) (n lo sz : Nat) (v : Value) : Prop := lo ≤ n ∧ ∃ ad c, v = .slice ad (n - lo) c ∧ (0 < n - lo → ∃ b cap, m = some (b, cap) ∧ ad = some ⟨b, lo * sz, none⟩)

def SlR (S : Cells) (w : World) (ex : Bool) (s : Sch) (xs : List s.D) (v : Value) : Prop :=
  DR S w (.sl s) xs [v] ∧ (ex = true → ∃ a, v = .slice a xs.length xs.length)

/-- Objects that stay where they are: variables in memory, arrays among them. -/
def Ob.still : Ob → Prop
  | .cells _ _ => True
  | .arr m _ _ _ => m.fix ≠ none
  | .map _ _ _ _ _ _ => True
  | .it _ _ _ _ _ _ => True
def Ob.isH (m : Bool) : Ob → Bool
  | .map _ _ _ _ _ _ => m
  | .it _ _ _ _ _ _ => !m
  | _ => false

def PtrR (G : Gh) (look : Look) (o off : Nat) (v : Value) : Prop :=
  (∃ ob, look o = some ob ∧ ob.still) ∧ ∃ b c, G.M o = some (b, c) ∧ v = .pointer (some ⟨b, off, none⟩)

/-- A map, or a walk over one, as a value. -/
def HndR (G : Gh) (look : Look) (m : Bool) (o : Nat) (v : Value) : Prop :=
  (∃ ob, look o = some ob ∧ ob.isH m = true) ∧ ∃ b c, G.M o = some (b, c) ∧ v = match m with
    | true => .map (some b)
    | false => .pointer (some ⟨b, 0, none⟩)

def VR0 (G : Gh) (w : World) (look : Look) : AV → Value → Prop
  | .undef, _ => True
  | .skip, v => v = Go.undef
  | .int k n, v => v = .int k n
  | .bool b, v => v = .bool b
  | .str s, v => v = .string s
  | .nils, v => v = .slice none 0 0
  | .sl ex s xs, v => SlR G.S w ex s xs v
  | .ref o ver, v => Leaf v ∧ ∃ m ver' s xs, look o = some (.arr m ver' s xs) ∧ m.fix = none ∧ ver ≤ ver' ∧ (ver = ver' → RefV (G.M o) xs.length v)
  | .ptr o off, v => PtrR G look o off v
  | .ptre o ver i off, v => Leaf v ∧ ∃ m ver' s xs, look o = some (.arr m ver' s xs) ∧ ver ≤ ver' ∧
      (ver = ver' → i < xs.length ∧ ∃ b c, G.M o = some (b, c) ∧ v = .pointer (some ⟨b, i * s.size + off, none⟩))
  | .pel s xs i off, v => i < xs.length ∧ ∃ b o0, ElR G.S w s xs b o0 ∧ v = .pointer (some ⟨b, o0 + i * s.size + off, none⟩)
  | .pix o base s m i off, v => i < m ∧ PtrR G look o (base + i * s.size + off) v
  | .cst u, v => v = u
  | .fn f cap, v => ∃ vs : Array Value, v = .func (.func f) #[] vs ∧ All2 (fun o v => PtrR G look o 0 v) cap vs.toList
  | .clo f s c, v => ∃ (vs : Array Value) (b o0 : Nat), v = .func (.func f) #[] vs ∧ ElR G.S w s [c] b o0 ∧ vs.toList = [.pointer (some ⟨b, o0, none⟩)]
  | .hnd m o, v => HndR G look m o v
  | .yld i, v => Leaf v ∧ ∀ b, G.Y i = some b → v = .func (.yield b) #[] #[]
  | .agg _, _ => False
  | .tup _, _ => False
  | .vw o ver lo, v => Leaf v ∧ ∃ m ver' s xs, look o = some (.arr m ver' s xs) ∧ ver ≤ ver' ∧ (ver = ver' → VwV (G.M o) xs.length lo s.size v)

def CR (G : Gh) (w : World) (look : Look) (c : AV) (v : Value) : Prop := VR0 G w look c v ∧ Leaf v

def VR1 (G : Gh) (w : World) (look : Look) : AV → Value → Prop
  | .agg cs, v => ∃ vs : Array Value, v = .agg vs ∧ All2 (CR G w look) cs vs.toList
  | a, v => VR0 G w look a v

def VR (G : Gh) (w : World) (look : Look) : AV → Value → Prop
  | .tup as, v => ∃ vs : Array Value, v = .tuple vs ∧ All2 (VR1 G w look) as vs.toList
  | a, v => VR1 G w look a v

/-- From one state to a later one: what is marked stays; variables stay where they are; a slice under construction keeps its place and length, or is a newer one. -/
structure Ext (G : Gh) (w : World) (look : Look) (G' : Gh) (w' : World) (look' : Look) : Prop where
  keeps : Keeps G.S w G'.S w'
  cells : ∀ o fz cs, look o = some (.cells fz cs) → G'.M o = G.M o ∧ ∃ fz' cs', look' o = some (.cells fz' cs')
  arr : ∀ o m ver s xs, look o = some (.arr m ver s xs) → ∃ m' ver' xs', look' o = some (.arr m' ver' s xs') ∧ m'.fix = m.fix ∧ ver ≤ ver' ∧
    (m.fix ≠ none → ver' = ver) ∧ (ver' = ver → G'.M o = G.M o ∧ xs'.length = xs.length)
  yl : G'.Y = G.Y
  map : ∀ o ver ka va ks vs xs, look o = some (.map ver ka va ks vs xs) → G'.M o = G.M o ∧ ∃ ver' xs', look' o = some (.map ver' ka va ks vs xs') ∧ ver ≤ ver' ∧
    (ver' = ver → xs' = xs ∧ ∀ b c, G.M o = some (b, c) → w'.heap[b]? = w.heap[b]?)
  it : ∀ o mo ver ks vs left cur, look o = some (.it mo ver ks vs left cur) → G'.M o = G.M o ∧ ∃ left' cur', look' o = some (.it mo ver ks vs left' cur')

theorem Ext.refl (G : Gh) (w : World) (look : Look) : Ext G w look G w look :=
  ⟨Keeps.refl _ _, fun o fz cs h => ⟨rfl, fz, cs, h⟩, fun o m ver s xs h => ⟨m, ver, xs, h, rfl, Nat.le_refl _, fun _ => rfl, fun _ => ⟨rfl, rfl⟩⟩, rfl,
    fun o ver ka va ks vs xs h => ⟨rfl, ver, xs, h, Nat.le_refl _, fun _ => ⟨rfl, fun _ _ _ => rfl⟩⟩, fun o mo ver ks vs left cur h => ⟨rfl, left, cur, h⟩⟩

/-- Nothing that is named has been turned. -/
theorem Ext.same {G G' : Gh} {w w' : World} {look : Look} (hY : G'.Y = G.Y) (hk : Keeps G.S w G'.S w') (hM : ∀ o ob, look o = some ob → G'.M o = G.M o) (hblk : ∀ o ob b c, look o = some ob → G.M o = some (b, c) → w'.heap[b]? = w.heap[b]?) : Ext G w look G' w' look :=
  ⟨hk, fun o fz cs h => ⟨hM o _ h, fz, cs, h⟩, fun o m ver s xs h => ⟨m, ver, xs, h, rfl, Nat.le_refl _, fun _ => rfl, fun _ => ⟨hM o _ h, rfl⟩⟩, hY,
    fun o ver ka va ks vs xs h => ⟨hM o _ h, ver, xs, h, Nat.le_refl _, fun _ => ⟨rfl, fun b c hb => hblk o _ b c h hb⟩⟩, fun o mo ver ks vs left cur h => ⟨hM o _ h, left, cur, h⟩⟩

section ext
variable {G G' : Gh} {w w' : World} {look look' : Look}

theorem Ext.ptr (h : Ext G w look G' w' look') {o off : Nat} {v : Value} (hp : PtrR G look o off v) : PtrR G' look' o off v := by
  obtain ⟨⟨ob, ho, hs⟩, b, c, hm, e⟩ := hp
  cases ob with
  | cells fz cs =>
    obtain ⟨h1, fz', cs', h2⟩ := h.cells o fz cs ho
    exact ⟨⟨_, h2, trivial⟩, b, c, h1.trans hm, e⟩
  | arr m ver s xs =>
    simp only [Ob.still] at hs
    obtain ⟨m', ver', xs', h1, h2, _, h3, h4⟩ := h.arr o m ver s xs ho
    exact ⟨⟨_, h1, by simpa only [Ob.still, h2] using hs⟩, b, c, (h4 (h3 hs)).1.trans hm, e⟩
  | map ver ka va ks vs xs =>
    obtain ⟨h1, ver', xs', h2, _⟩ := h.map o ver ka va ks vs xs ho
    exact ⟨⟨_, h2, trivial⟩, b, c, h1.trans hm, e⟩
  | it mo ver ks vs left cur =>
    obtain ⟨h1, left', cur', h2⟩ := h.it o mo ver ks vs left cur ho
    exact ⟨⟨_, h2, trivial⟩, b, c, h1.trans hm, e⟩

theorem Ext.hnd (h : Ext G w look G' w' look') {m : Bool} {o : Nat} {v : Value} (hp : HndR G look m o v) : HndR G' look' m o v := by
  obtain ⟨⟨ob, ho, hs⟩, b, c, hm, e⟩ := hp
  cases ob with
  | cells fz cs => simp [Ob.isH] at hs
  | arr m ver s xs => simp [Ob.isH] at hs
  | map ver ka va ks vs xs =>
    obtain ⟨h1, ver', xs', h2, _⟩ := h.map o ver ka va ks vs xs ho
    exact ⟨⟨_, h2, hs⟩, b, c, h1.trans hm, e⟩
  | it mo ver ks vs left cur =>
    obtain ⟨h1, left', cur', h2⟩ := h.it o mo ver ks vs left cur ho
    exact ⟨⟨_, h2, hs⟩, b, c, h1.trans hm, e⟩

theorem VR0.ext (h : Ext G w look G' w' look') : ∀ {a : AV} {v : Value}, VR0 G w look a v → VR0 G' w' look' a v := by
  intro a v hv
  cases a with
  | undef => trivial
  | skip => exact hv
  | int k n => exact hv
  | bool b => exact hv
  | str s => exact hv
  | nils => exact hv
  | sl ex s xs => exact ⟨DR.mono h.keeps hv.1, hv.2⟩
  | ref o ver =>
    obtain ⟨hl, m, ver', s, xs, ho, hm, hle, hr⟩ := hv
    obtain ⟨m', ver'', xs', h1, h2, h3, _, h4⟩ := h.arr o m ver' s xs ho
    refine ⟨hl, m', ver'', s, xs', h1, h2.trans hm, Nat.le_trans hle h3, fun e => ?_⟩
    have e1 : ver' = ver := Nat.le_antisymm (by omega) hle
    obtain ⟨h5, h6⟩ := h4 (by omega)
    rw [h5, h6]
    exact hr e1.symm
  | ptr o off => exact h.ptr hv
  | ptre o ver i off =>
    obtain ⟨hl, m, ver', s, xs, ho, hle, hr⟩ := hv
    obtain ⟨m', ver'', xs', h1, h2, h3, _, h4⟩ := h.arr o m ver' s xs ho
    refine ⟨hl, m', ver'', s, xs', h1, Nat.le_trans hle h3, fun e => ?_⟩
    obtain ⟨h5, h6⟩ := h4 (by omega)
    rw [h5, h6]
    exact hr (by omega)
  | pel s xs i off =>
    obtain ⟨hi, b, o0, he, e⟩ := hv
    exact ⟨hi, b, o0, he.mono h.keeps, e⟩
  | pix o base s m i off => exact ⟨hv.1, h.ptr hv.2⟩
  | cst u => exact hv
  | fn f cap =>
    obtain ⟨vs, e, ha⟩ := hv
    exact ⟨vs, e, ha.imp fun _ _ hp => h.ptr hp⟩
  | clo f s c =>
    obtain ⟨vs, b, o0, e, he, e2⟩ := hv
    exact ⟨vs, b, o0, e, he.mono h.keeps, e2⟩
  | hnd m o => exact h.hnd hv
  | yld i => exact ⟨hv.1, fun b hb => hv.2 b (by rw [← h.yl]; exact hb)⟩
  | agg _ => exact hv.elim
  | tup _ => exact hv.elim
  | vw o ver lo =>
    obtain ⟨hl, m, ver', s, xs, ho, hle, hr⟩ := hv
    obtain ⟨m', ver'', xs', h1, h2, h3, _, h4⟩ := h.arr o m ver' s xs ho
    refine ⟨hl, m', ver'', s, xs', h1, Nat.le_trans hle h3, fun e => ?_⟩
    obtain ⟨h5, h6⟩ := h4 (by omega)
    rw [h5, h6]
    exact hr (by omega)

theorem CR.ext (h : Ext G w look G' w' look') {a : AV} {v : Value} (hv : CR G w look a v) : CR G' w' look' a v := ⟨VR0.ext h hv.1, hv.2⟩

theorem VR1.ext (h : Ext G w look G' w' look') {a : AV} {v : Value} (hv : VR1 G w look a v) : VR1 G' w' look' a v := by
  cases a with
  | agg cs =>
    obtain ⟨vs, e, ha⟩ := hv
    exact ⟨vs, e, ha.imp fun _ _ hp => CR.ext h hp⟩
  | tup _ => exact hv.elim
  | _ => simp only [VR1] at hv ⊢; exact VR0.ext h hv

theorem VR.ext (h : Ext G w look G' w' look') {a : AV} {v : Value} (hv : VR G w look a v) : VR G' w' look' a v := by
  cases a with
  | tup as =>
    obtain ⟨vs, e, ha⟩ := hv
    exact ⟨vs, e, ha.imp fun _ _ hp => VR1.ext h hp⟩
  | agg cs => simp only [VR] at hv ⊢; exact VR1.ext h hv
  | _ => simp only [VR, VR1] at hv ⊢; exact VR0.ext h hv
end ext

/-! ### objects -/
def ArrR (S : Cells) (w : World) (B : Nat → Prop) (mo : Option (Nat × Nat)) (m : Mode) (s : Sch) (xs : List s.D) : Prop := match mo with
  | none => xs = [] ∧ m.fix = none
  | some (b, cap) => ¬ B b ∧ ∃ vs ty, w.heap[b]? = some (.cells vs ty (0, 0)) ∧ vs.size = cap * s.size ∧ xs.length ≤ cap ∧ (m.fix = none → cap ≤ 9223372036854775807) ∧ (∀ k, m.fix = some k → cap = k ∧ xs.length = k) ∧
      (∀ (i : Nat) (x : s.D), xs[i]? = some x → ∃ ws, DR S w s x ws ∧ ∀ (j : Nat) (v : Value), ws[j]? = some v → vs[i * s.size + j]? = some v) ∧
      (∀ off, S b off → m = .grow ∧ off < xs.length * s.size) ∧ (m = .grow → ∀ off, off < xs.length * s.size → S b off)

def ObR (B : Nat → Prop) (G : Gh) (w : World) (look : Look) (o : Nat) : Ob → Prop
  | .cells fz cs => ∃ b c vs ty, G.M o = some (b, c) ∧ ¬ B b ∧ w.heap[b]? = some (.cells vs ty (0, 0)) ∧ All2 (CR G w look) cs vs.toList ∧ (fz = false → ∀ off, ¬ G.S b off)
  | .arr m _ s xs => 0 < s.size ∧ ArrR G.S w B (G.M o) m s xs
  | .map _ ka va ks vs xs => ∃ b c es clock, G.M o = some (b, c) ∧ ¬ B b ∧ w.heap[b]? = some (.map es clock) ∧ MapR G.S w ka va ks vs xs es clock
  | .it mo ver ks vs left cur => ∃ b c bm c' since seen last ver' ka va ks' vs' xs, G.M o = some (b, c) ∧ ¬ B b ∧ w.heap[b]? = some (.mapIter (some bm) since seen last) ∧
      look mo = some (.map ver' ka va ks' vs' xs) ∧ ver ≤ ver' ∧ G.M mo = some (bm, c') ∧ (ver = ver' → ks' = ks ∧ vs' = vs ∧ ∃ es clock, w.heap[bm]? = some (.map es clock) ∧ since = clock ∧ last = clock ∧
        (∃ L : List MapEntry, L.Perm (leftOf es seen).toList ∧ All2 (EntR G.S w ka va ks vs) left L) ∧
        ∀ c ∈ cur, ∃ e ∈ es.toList, EntR G.S w ka va ks vs c e ∧ ∃ seen' : Array Nat, seen = seen'.push e.born)

/-- What the frames around hold, and the blocks of the loops over functions. -/
structure Outs where
  fr : List (Array Value) := []
  Y : Nat → Option Nat := fun _ => none

structure Rel (B : Nat → Prop) (w0 : World) (S0 : Cells) (G : Gh) (outs : Outs) (σ : St) (a : Act) (w : World) : Prop where
  below : Bel B w0 w
  bsz : ∀ b, B b → b < w.heap.size
  s0 : ∀ b o, S0 b o → G.S b o
  snew : ∀ b o, G.S b o → S0 b o ∨ ¬ B b
  slt : ∀ b o, G.S b o → b < w.heap.size
  tml : σ.tm.length ≤ a.tmps.size
  tm : ∀ t, VR G w (fun o => lk o σ.sto) (get σ.tm t) (a.tmps.getD t Go.undef)
  outl : All2 (fun (l : Tm) (arr : Array Value) => l.length ≤ arr.size ∧ ∀ t, VR G w (fun o => lk o σ.sto) (get l t) (arr.getD t Go.undef)) σ.outs outs.fr
  obj : ∀ o ob, lk o σ.sto = some ob → ObR B G w (fun o => lk o σ.sto) o ob
  inj : ∀ o o' ob ob' b c c', lk o σ.sto = some ob → lk o' σ.sto = some ob' → G.M o = some (b, c) → G.M o' = some (b, c') → o = o'
  yeq : G.Y = outs.Y

/-- A frame more. -/
def Outs.push (outs : Outs) (t : Array Value) : Outs := { outs with fr := t :: outs.fr }

theorem Rel.fresh {B : Nat → Prop} {w0 : World} {S0 : Cells} {G : Gh} {outs : Outs} {σ : St} {a : Act} {w : World} (h : Rel B w0 S0 G outs σ a w) : ¬ B w.heap.size := fun hb => Nat.lt_irrefl _ (h.bsz _ hb)

/-- Of what a step may turn: written slots and objects are listed. -/
structure Pres (σ σ' : St) : Prop where
  tm : ∀ t, t ∈ σ'.dt ∨ get σ'.tm t = get σ.tm t ∨ get σ'.tm t = .undef
  dt : ∀ t, t ∈ σ.dt → t ∈ σ'.dt
  ob : ∀ o, o ∈ σ'.dob ∨ ∀ ob, lk o σ'.sto = some ob → lk o σ.sto = some ob
  dob : ∀ o, o ∈ σ.dob → o ∈ σ'.dob
  outs : σ'.outs = σ.outs
  len : σ'.tm.length = σ.tm.length

theorem Pres.refl (σ : St) : Pres σ σ := ⟨fun _ => .inr (.inl rfl), fun _ h => h, fun _ => .inr fun _ h => h, fun _ h => h, rfl, rfl⟩
theorem Pres.trans {σ σ' σ'' : St} (h : Pres σ σ') (k : Pres σ' σ'') : Pres σ σ'' := by
  refine ⟨fun t => ?_, fun t ht => k.dt t (h.dt t ht), fun o => ?_, fun o ho => k.dob o (h.dob o ho), k.outs.trans h.outs, k.len.trans h.len⟩
  · rcases k.tm t with h1 | h1 | h1
    · exact .inl h1
    · rcases h.tm t with h2 | h2 | h2
      · exact .inl (k.dt t h2)
      · exact .inr (.inl (h1.trans h2))
      · exact .inr (.inr (h1.trans h2))
    · exact .inr (.inr h1)
  · rcases k.ob o with h1 | h1
    · exact .inl h1
    · rcases h.ob o with h2 | h2
      · exact .inl (k.dob o h2)
      · exact .inr fun ob h3 => h2 ob (h1 ob h3)

end Go.Pi
end

section
namespace Go.Pi
set_option linter.unusedVariables false
set_option linter.unusedSimpArgs false
open Go.RowKit

theorem lk_ups (o : Nat) (x : Ob) (p : Nat) : ∀ s : List (Nat × Ob), lk p (ups o x s) = if p = o then some x else lk p s
  | [] => by
    by_cases h : p = o <;> simp [ups, lk, h, eq_comm]
    intro h'; exact absurd h'.symm (by simpa using h)
  | (q, y) :: r => by
    have ih := lk_ups o x p r
    by_cases h : q = o
    · subst h
      by_cases h2 : p = q
      · subst h2; simp [ups, lk]
      · have h3 : ¬ (q = p) := fun e => h2 e.symm
        simp [ups, lk, h2, h3]
    · by_cases h2 : q = p
      · subst h2; simp [ups, lk, h]
      · simp [ups, lk, h, h2, ih]

theorem arr_getD_set (a : Array Value) (d : Nat) (v u : Value) (t : Nat) (hd : d < a.size) : (a.setIfInBounds d v).getD t u = if t = d then v else a.getD t u := by
  simp only [Array.getD_eq_getD_getElem?, Array.getElem?_setIfInBounds]
  by_cases h : d = t
  · subst h; simp [hd]
  · have h' : ¬ (t = d) := fun e => h e.symm
    simp [h, h']

section
variable {P : Program} {B : Nat → Prop} {w0 : World} {S0 : Cells} {G : Gh} {outs : Outs} {σ : St} {a : Act} {w : World}

abbrev lks (σ : St) : Look := fun o => lk o σ.sto

/-- A slot is written. -/
theorem Rel.put (h : Rel B w0 S0 G outs σ a w) (dst : Option Tmp) {av : AV} {v : Value} (hv : VR G w (lks σ) av v) :
    Rel B w0 S0 G outs (appEff dst σ av []) (a.put dst v) w := by
  cases dst with
  | none => exact ⟨h.below, h.bsz, h.s0, h.snew, h.slt, h.tml, h.tm, h.outl, h.obj, h.inj, h.yeq⟩
  | some d =>
    refine ⟨h.below, h.bsz, h.s0, h.snew, h.slt, ?_, fun t => ?_, h.outl, h.obj, h.inj, h.yeq⟩
    · simpa [appEff, Act.put, Tm.length_set] using h.tml
    · show VR G w _ (get (σ.tm.set d av) t) ((a.tmps.setIfInBounds d v).getD t Go.undef)
      rw [get_set]
      by_cases h1 : t = d ∧ d < σ.tm.length
      · rw [if_pos h1, arr_getD_set _ _ _ _ _ (Nat.lt_of_lt_of_le h1.2 h.tml), if_pos h1.1]
        exact hv
      · rw [if_neg h1]
        by_cases h2 : d < a.tmps.size
        · rw [arr_getD_set _ _ _ _ _ h2]
          by_cases h3 : t = d
          · subst h3
            have : ¬ (t < σ.tm.length) := fun e => h1 ⟨rfl, e⟩
            have hg : get σ.tm t = .undef := get_ge (Nat.le_of_not_lt this)
            rw [hg]
            simp only [VR, VR1, VR0]
          · rw [if_neg h3]; exact h.tm t
        · rw [Array.setIfInBounds_eq_of_size_le (Nat.le_of_not_lt h2)]
          exact h.tm t

theorem Pres.put (σ : St) (dst : Option Tmp) (av : AV) : Pres σ (appEff dst σ av []) := by
  cases dst with
  | none => exact Pres.refl σ
  | some d =>
    refine ⟨fun t => ?_, fun t ht => .tail _ ht, fun o => .inr fun ob h => h, fun o ho => ho, rfl, by simp [appEff, Tm.length_set]⟩
    by_cases h : t = d
    · exact .inl (by simp [appEff, h])
    · refine .inr (.inl ?_)
      show get (σ.tm.set d av) t = _
      rw [get_set, if_neg (fun e => h e.1)]

/-- An operand's value. -/
theorem ofV0_rel {v : Value} {a : AV} (h : ofV0 v = some a) (G : Gh) (w : World) (look : Look) : CR G w look a v := by
  unfold ofV0 at h
  split at h <;> simp at h <;> subst h
  · exact ⟨rfl, trivial⟩
  · exact ⟨rfl, trivial⟩
  · exact ⟨rfl, trivial⟩
  · exact ⟨rfl, trivial⟩
  · rename_i h1 h2
    refine ⟨trivial, ?_⟩
    cases v <;> first | trivial | exact absurd rfl (h1 _) | exact absurd rfl (h2 _)

theorem ofVs_rel (G : Gh) (w : World) (look : Look) : ∀ {vs : List Value} {l : List AV}, ofVs vs = some l → All2 (CR G w look) l vs
  | [], l, h => by simp [ofVs] at h; subst h; trivial
  | v :: r, l, h => by
    simp only [ofVs] at h
    split at h
    · rename_i a l' ha hl
      simp at h; subst h
      exact ⟨ofV0_rel ha G w look, ofVs_rel G w look hl⟩
    · simp at h

theorem CR.vr {look : Look} {a : AV} {v : Value} (h : CR G w look a v) : VR G w look a v := by
  have h1 := h.1
  cases a <;> first | (simp only [VR, VR1]; exact h1) | exact h1.elim

theorem ofV_rel (v : Value) (G : Gh) (w : World) (look : Look) : VR G w look (ofV v) v := by
  unfold ofV
  split
  · rename_i cs
    split
    · rename_i l hl
      exact ⟨cs, rfl, ofVs_rel G w look hl⟩
    · simp only [VR, VR1, VR0]
  · split
    · rename_i a ha
      exact (ofV0_rel ha G w look).vr
    · simp only [VR, VR1, VR0]

theorem ev_rel (h : Rel B w0 S0 G outs σ a w) (x : Operand) : VR G w (lks σ) (ev σ.tm x) (a.eval x) := by
  cases x with
  | tmp t => exact h.tm t
  | const v => exact ofV_rel v G w _
  | global g => simp only [ev, VR, VR1, VR0]
  | func f => exact ⟨#[], rfl, trivial⟩

/-- The cells of a known value. -/
theorem known_rel {look : Look} {av : AV} {v : Value} {cs : List AV} (hv : VR G w look av v) (hk : av.known = some cs) : All2 (CR G w look) cs v.cells.toList := by
  cases av with
  | undef => simp [AV.known] at hk
  | skip => simp [AV.known] at hk
  | tup _ => simp [AV.known] at hk
  | cst _ => simp [AV.known] at hk
  | agg l =>
    simp [AV.known] at hk; subst hk
    obtain ⟨vs, rfl, ha⟩ := hv
    simpa [Value.cells] using ha
  | int k n => simp [AV.known] at hk; subst hk; simp only [VR, VR1, VR0] at hv; subst hv; exact ⟨⟨rfl, trivial⟩, trivial⟩
  | bool b => simp [AV.known] at hk; subst hk; simp only [VR, VR1, VR0] at hv; subst hv; exact ⟨⟨rfl, trivial⟩, trivial⟩
  | str b => simp [AV.known] at hk; subst hk; simp only [VR, VR1, VR0] at hv; subst hv; exact ⟨⟨rfl, trivial⟩, trivial⟩
  | nils => simp [AV.known] at hk; subst hk; simp only [VR, VR1, VR0] at hv; subst hv; exact ⟨⟨rfl, trivial⟩, trivial⟩
  | sl ex s xs =>
    simp [AV.known] at hk; subst hk
    have h1 : VR0 G w look (.sl ex s xs) v := hv
    obtain ⟨⟨x, cap, e, _⟩, _⟩ := hv
    simp at e; subst e
    exact ⟨⟨h1, trivial⟩, trivial⟩
  | ref o ver =>
    simp [AV.known] at hk; subst hk
    have h1 : VR0 G w look (.ref o ver) v := hv
    have h2 : Leaf v := hv.1
    rw [Leaf.cells h2]
    exact ⟨⟨h1, h2⟩, trivial⟩
  | hnd m o =>
    simp [AV.known] at hk; subst hk
    have h1 : VR0 G w look (.hnd m o) v := hv
    obtain ⟨_, b, c, _, e⟩ := hv
    have h2 : Leaf v := by subst e; cases m <;> trivial
    rw [Leaf.cells h2]
    exact ⟨⟨h1, h2⟩, trivial⟩
  | vw o ver lo =>
    simp [AV.known] at hk; subst hk
    have h1 : VR0 G w look (.vw o ver lo) v := hv
    have h2 : Leaf v := hv.1
    rw [Leaf.cells h2]
    exact ⟨⟨h1, h2⟩, trivial⟩
  | yld i =>
    simp [AV.known] at hk; subst hk
    have h1 : VR0 G w look (.yld i) v := hv
    have h2 : Leaf v := hv.1
    rw [Leaf.cells h2]
    exact ⟨⟨h1, h2⟩, trivial⟩
  | ptre o ver i off =>
    simp [AV.known] at hk; subst hk
    have h1 : VR0 G w look (.ptre o ver i off) v := hv
    have h2 : Leaf v := hv.1
    rw [Leaf.cells h2]
    exact ⟨⟨h1, h2⟩, trivial⟩
  | ptr o off =>
    simp [AV.known] at hk; subst hk
    have h1 : VR0 G w look (.ptr o off) v := hv
    obtain ⟨_, b, c, _, e⟩ := hv
    subst e
    exact ⟨⟨h1, trivial⟩, trivial⟩
  | pel s xs i off =>
    simp [AV.known] at hk; subst hk
    have h1 : VR0 G w look (.pel s xs i off) v := hv
    obtain ⟨_, b, o0, _, e⟩ := hv
    subst e
    exact ⟨⟨h1, trivial⟩, trivial⟩
  | pix o base s m i off =>
    simp [AV.known] at hk; subst hk
    have h1 : VR0 G w look (.pix o base s m i off) v := hv
    obtain ⟨_, _, b, c, _, e⟩ := hv
    subst e
    exact ⟨⟨h1, trivial⟩, trivial⟩
  | fn f cap =>
    simp [AV.known] at hk; subst hk
    have h1 : VR0 G w look (.fn f cap) v := hv
    obtain ⟨vs, e, _⟩ := hv
    subst e
    exact ⟨⟨h1, trivial⟩, trivial⟩
  | clo f s c =>
    simp [AV.known] at hk; subst hk
    have h1 : VR0 G w look (.clo f s c) v := hv
    obtain ⟨vs, b, o0, e, _⟩ := hv
    subst e
    exact ⟨⟨h1, trivial⟩, trivial⟩
end
end Go.Pi
end

section
namespace Go.Pi
set_option linter.unusedVariables false
set_option linter.unusedSimpArgs false
open Go.RowKit

def TysV (S : Cells) (w : World) : (l : List Ty) → (tyS l).D → List Value → Prop
  | [], _, vs => vs = []
  | [t], x, vs => ∃ v, vs = [v] ∧ TyV S w t x v
  | t :: t' :: r, x, vs => ∃ v vs', vs = v :: vs' ∧ TyV S w t x.1 v ∧ TysV S w (t' :: r) x.2 vs'

section
variable {B : Nat → Prop} {G : Gh} {w : World} {look : Look}

theorem enc_rel : ∀ {s : Sch} {x : s.D} {vs : List Value}, DR G.S w s x vs → All2 (CR G w look) (s.enc x) vs
  | .unit, _, _, h => by simp [DR] at h; subst h; trivial
  | .int _, _, _, h => by simp only [DR] at h; subst h; exact ⟨⟨rfl, trivial⟩, trivial⟩
  | .bool, _, _, h => by simp only [DR] at h; subst h; exact ⟨⟨rfl, trivial⟩, trivial⟩
  | .str, _, _, h => by simp only [DR] at h; subst h; exact ⟨⟨rfl, trivial⟩, trivial⟩
  | .sl s, xs, vs, h => by
    have h0 := h
    obtain ⟨a, cap, rfl, _⟩ := h
    exact ⟨⟨⟨h0, fun e => by simp at e⟩, trivial⟩, trivial⟩
  | .pair p q, x, _, h => by
    obtain ⟨l, r, rfl, hl, hr⟩ := h
    exact (enc_rel hl).append (enc_rel hr)

theorem dec_rel : ∀ {s : Sch} {cs : List AV} {vs : List Value} {x : s.D} {r : List AV}, All2 (CR G w look) cs vs → s.dec cs = some (x, r) →
    ∃ l m, vs = l ++ m ∧ DR G.S w s x l ∧ All2 (CR G w look) r m := by
  intro s
  induction s with
  | unit =>
    intro cs vs x r h e
    simp [Sch.dec] at e
    exact ⟨[], vs, rfl, rfl, e ▸ h⟩
  | int k =>
    intro cs vs x r h e
    cases cs with
    | nil => simp [Sch.dec] at e
    | cons c cs =>
      cases vs with
      | nil => exact h.elim
      | cons v vs =>
        cases c <;> simp [Sch.dec] at e
        obtain ⟨rfl, rfl, rfl⟩ := e
        have h1 : v = _ := h.1.1
        subst h1
        exact ⟨[_], vs, rfl, rfl, h.2⟩
  | bool =>
    intro cs vs x r h e
    cases cs with
    | nil => simp [Sch.dec] at e
    | cons c cs =>
      cases vs with
      | nil => exact h.elim
      | cons v vs =>
        cases c <;> simp [Sch.dec] at e
        obtain ⟨rfl, rfl⟩ := e
        have h1 : v = _ := h.1.1
        subst h1
        exact ⟨[_], vs, rfl, rfl, h.2⟩
  | str =>
    intro cs vs x r h e
    cases cs with
    | nil => simp [Sch.dec] at e
    | cons c cs =>
      cases vs with
      | nil => exact h.elim
      | cons v vs =>
        cases c <;> simp [Sch.dec] at e
        obtain ⟨rfl, rfl⟩ := e
        have h1 : v = _ := h.1.1
        subst h1
        exact ⟨[_], vs, rfl, rfl, h.2⟩
  | sl s ih =>
    intro cs vs x r h e
    cases cs with
    | nil => simp [Sch.dec] at e
    | cons c cs =>
      cases vs with
      | nil => exact h.elim
      | cons v vs =>
        cases c <;> simp [Sch.dec] at e
        case nils =>
          obtain ⟨rfl, rfl⟩ := e
          have h1 : v = _ := h.1.1
          subst h1
          exact ⟨[_], vs, rfl, ⟨none, 0, rfl, by simp, by simp, fun hp => by simp at hp⟩, h.2⟩
        case sl ex s' xs =>
          obtain ⟨⟨rfl, rfl⟩, rfl⟩ := e
          exact ⟨[v], vs, rfl, h.1.1.1, h.2⟩
  | pair p q ihp ihq =>
    intro cs vs x r h e
    simp only [Sch.dec] at e
    split at e
    · simp at e
    · rename_i x1 r1 e1
      split at e
      · simp at e
      · rename_i x2 r2 e2
        simp at e
        obtain ⟨rfl, rfl⟩ := e
        obtain ⟨l, m, rfl, hd, hm⟩ := ihp h e1
        obtain ⟨l', m', rfl, hd', hm'⟩ := ihq hm e2
        exact ⟨l ++ l', m', by simp, ⟨l, l', rfl, hd, hd'⟩, hm'⟩

theorem dec_all {s : Sch} {cs : List AV} {vs : List Value} {x : s.D} (h : All2 (CR G w look) cs vs) (e : s.dec cs = some (x, [])) : DR G.S w s x vs := by
  obtain ⟨l, m, rfl, hd, hm⟩ := dec_rel h e
  cases m with
  | nil => simpa using hd
  | cons v m => exact hm.elim

/-- Elements one after the other. -/
def DRN (S : Cells) (w : World) (s : Sch) (xs : List s.D) (vs : List Value) : Prop :=
  vs.length = xs.length * s.size ∧ ∀ (i : Nat) (x : s.D), xs[i]? = some x → DR S w s x ((vs.drop (i * s.size)).take s.size)

theorem decN_rel {s : Sch} : ∀ {n : Nat} {cs : List AV} {vs : List Value} {xs : List s.D}, All2 (CR G w look) cs vs → decN s n cs = some xs → xs.length = n ∧ DRN G.S w s xs vs
  | 0, cs, vs, xs, h, e => by
    cases cs with
    | nil =>
      simp [decN] at e
      subst e
      cases vs with
      | nil => exact ⟨rfl, by simp, fun i x hx => by simp at hx⟩
      | cons v vs => exact h.elim
    | cons c cs => simp [decN] at e
  | n + 1, cs, vs, xs, h, e => by
    simp only [decN] at e
    split at e
    · rename_i x r e1
      split at e
      · rename_i ys e2
        simp at e
        subst e
        obtain ⟨l, m, rfl, hd, hm⟩ := dec_rel h e1
        obtain ⟨h1, h2, h3⟩ := decN_rel hm e2
        have hl := hd.length
        refine ⟨by simp [h1], by simp [hl, h2, Nat.add_mul]; omega, fun i y hy => ?_⟩
        cases i with
        | zero =>
          simp at hy; subst hy
          have e3 : ((l ++ m).drop (0 * s.size)).take s.size = l := by simp [← hl]
          rw [e3]
          exact hd
        | succ i =>
          have h4 := h3 i y (by simpa using hy)
          have h5 : (i + 1) * s.size = l.length + i * s.size := by rw [hl, Nat.add_mul]; omega
          have e3 : (l ++ m).drop ((i + 1) * s.size) = m.drop (i * s.size) := by
            rw [h5, List.drop_append, List.drop_eq_nil_of_le (by omega)]
            simp
          rw [e3]
          exact h4
      · simp at e
    · simp at e

/-! ### slices under construction, read as data -/
theorem cell_of_block {b : Nat} {vs : Array Value} {ty : TypeId} {off : Nat} (h : w.heap[b]? = some (.cells vs ty (0, 0))) : w.cell? ⟨b, off, none⟩ = vs[off]? := by
  simp [World.cell?, h]

/-- The elements of a frozen slice. -/
theorem ArrR.elr {mo : Option (Nat × Nat)} {s : Sch} {xs : List s.D} {b cap : Nat} (h : ArrR G.S w B mo .grow s xs) (hm : mo = some (b, cap)) : ElR G.S w s xs b 0 := by
  subst hm
  obtain ⟨_, vs, ty, hb, hsz, hle, _, _, he, _, hS⟩ := h
  intro i x hx
  obtain ⟨ws, hd, hw⟩ := he i x hx
  refine ⟨ws, hd, fun j v hv => ?_⟩
  have hi : i < xs.length := by
    rcases Nat.lt_or_ge i xs.length with h1 | h1
    · exact h1
    · rw [List.getElem?_eq_none h1] at hx; simp at hx
  have hj : j < s.size := by
    have := hd.length
    rcases Nat.lt_or_ge j ws.length with h1 | h1
    · omega
    · rw [List.getElem?_eq_none h1] at hv; simp at hv
  have hlt : i * s.size + j < xs.length * s.size := by
    have : (i + 1) * s.size ≤ xs.length * s.size := Nat.mul_le_mul_right _ hi
    rw [Nat.add_mul] at this
    omega
  refine ⟨by rw [Nat.zero_add]; exact hS rfl _ hlt, ?_⟩
  rw [cell_of_block hb, Nat.zero_add]
  exact hw j v hv

/-- A frozen slice's value. -/
theorem ArrR.dr {mo : Option (Nat × Nat)} {s : Sch} {xs : List s.D} {v : Value} (h : ArrR G.S w B mo .grow s xs) (hv : RefV mo xs.length v) : DR G.S w (.sl s) xs [v] := by
  cases mo with
  | none =>
    obtain ⟨h1, _⟩ := h
    subst h1
    obtain ⟨_, rfl⟩ := hv
    exact ⟨none, 0, rfl, by simp, by simp, fun hp => by simp at hp⟩
  | some q =>
    obtain ⟨b, cap⟩ := q
    have he := ArrR.elr h rfl
    obtain ⟨_, vs, ty, hb, hsz, hle, hmx, _⟩ := h
    simp only [RefV] at hv
    subst hv
    exact ⟨_, cap, rfl, hle, hmx rfl, fun _ => ⟨b, 0, rfl, he⟩⟩

theorem pur_rel (hobj : ∀ o ob, look o = some ob → ObR B G w look o ob) {c : AV} {v : Value} (h : CR G w look c v) : CR G w look (pur look c) v := by
  unfold pur
  split
  · rename_i o ver
    split
    · rename_i ver' s xs ho
      split
      · rename_i e
        refine ⟨⟨?_, fun e => by simp at e⟩, h.2⟩
        obtain ⟨_, m, ver'', s', xs', ho', hm, hle, hr⟩ := h.1
        rw [ho] at ho'
        simp only [Option.some.injEq, Ob.arr.injEq] at ho'
        obtain ⟨rfl, rfl, rfl, e2⟩ := ho'
        have e3 := eq_of_heq e2
        subst e3
        exact (hobj o _ ho).2.dr (hr e)
      · exact ⟨trivial, h.2⟩
    · exact ⟨trivial, h.2⟩
  · exact h

theorem purs_rel (hobj : ∀ o ob, look o = some ob → ObR B G w look o ob) {cs : List AV} {vs : List Value} (h : All2 (CR G w look) cs vs) : All2 (CR G w look) (cs.map (pur look)) vs :=
  All2.map _ (h.imp fun _ _ hc => pur_rel hobj hc)

/-- A value that is one known cell. -/
def AV.isLeaf : AV → Bool
  | .undef => false
  | .cst _ => false
  | .skip => false
  | .tup _ => false
  | .agg _ => false
  | _ => true

theorem leaf_rel {av : AV} {v : Value} (hv : VR G w look av v) (hl : av.isLeaf = true) : CR G w look av v := by
  have hk : av.known = some [av] := by cases av <;> first | rfl | simp [AV.isLeaf] at hl
  have h := known_rel hv hk
  have h0 : VR0 G w look av v := by
    cases av <;> first | (simp [AV.isLeaf] at hl; done) | (simp only [VR, VR1] at hv; exact hv)
  have h5 := All2.length h
  cases v with
  | agg vs =>
    exfalso
    cases hh : vs.toList with
    | nil => simp [Value.cells, hh] at h5
    | cons u r =>
      cases av <;> first
        | (simp [AV.isLeaf] at hl; done)
        | (simp [VR0] at h0; done)
        | (obtain ⟨⟨_, _, e, _⟩, _⟩ := h0; simp at e; done)
        | exact h0.1.elim
        | (obtain ⟨_, _, _, _, e⟩ := h0; simp at e; done)
        | (obtain ⟨_, _, _, _, _, e⟩ := h0; simp at e; done)
        | (obtain ⟨_, e, _⟩ := h0; simp at e; done)
        | (obtain ⟨_, b, c, _, e⟩ := h0; split at e <;> simp at e; done)
  | _ =>
    simp only [Value.cells] at h
    exact h.1

theorem full_rel {s : Sch} {cs : List AV} {vs : List Value} {x : s.D} (h : All2 (CR G w look) cs vs) (e : full s cs = some x) : DR G.S w s x vs := by
  unfold full at e
  split at e
  · rename_i y ey
    simp at e; subst e
    exact dec_all h ey
  · simp at e

theorem decTy_rel (hobj : ∀ o ob, look o = some ob → ObR B G w look o ob) {t : Ty} {av : AV} {v : Value} {x : t.2.D} (hv : VR G w look av v) (e : decTy look t av = some x) : TyV G.S w t x v := by
  obtain ⟨ag, s⟩ := t
  cases ag with
  | true =>
    cases av <;> simp only [decTy] at e <;> try (simp at e; done)
    rename_i cs
    obtain ⟨vs, rfl, ha⟩ := hv
    exact ⟨vs, rfl, full_rel (purs_rel hobj ha) e⟩
  | false =>
    have key : av.isLeaf = true → full s [pur look av] = some x → DR G.S w s x [v] := by
      intro h1 h3
      exact full_rel (cs := [pur look av]) ⟨pur_rel hobj (leaf_rel hv h1), trivial⟩ h3
    have key2 : ∀ u : AV, (u = .undef ∨ u = .skip ∨ ∃ c, u = .cst c) → av = u → full s [pur look av] = some x → DR G.S w s x [v] := by
      intro u hu h1 h3
      exfalso
      subst h1
      have hp : pur look av = av := by rcases hu with rfl | rfl | ⟨_, rfl⟩ <;> rfl
      rw [hp, full] at h3
      split at h3
      · rename_i y ey
        have hn : ∀ (s : Sch) (y : s.D) (r : List AV), s.dec [av] = some (y, r) → r = [av] := by
          intro s
          induction s with
          | unit => intro y r h; simp [Sch.dec] at h; exact h.symm
          | int k => intro y r h; rcases hu with rfl | rfl | ⟨_, rfl⟩ <;> simp [Sch.dec] at h
          | bool => intro y r h; rcases hu with rfl | rfl | ⟨_, rfl⟩ <;> simp [Sch.dec] at h
          | str => intro y r h; rcases hu with rfl | rfl | ⟨_, rfl⟩ <;> simp [Sch.dec] at h
          | sl s _ => intro y r h; rcases hu with rfl | rfl | ⟨_, rfl⟩ <;> simp [Sch.dec] at h
          | pair p q ihp ihq =>
            intro y r h
            simp only [Sch.dec] at h
            split at h
            · simp at h
            · rename_i x1 r1 e1
              have := ihp _ _ e1
              subst this
              split at h
              · simp at h
              · rename_i x2 r2 e2
                have := ihq _ _ e2
                subst this
                simp at h
                exact h.2.symm
        have := hn s y [] ey
        simp at this
      · simp at h3
    cases av with
    | undef => simp only [decTy] at e; exact key2 .undef (.inl rfl) rfl e
    | skip => simp only [decTy] at e; exact key2 .skip (.inr (.inl rfl)) rfl e
    | cst c => simp only [decTy] at e; exact key2 (.cst c) (.inr (.inr ⟨c, rfl⟩)) rfl e
    | agg _ => simp [decTy] at e
    | tup _ => simp [decTy] at e
    | _ => simp only [decTy] at e; exact key rfl e

theorem encTy_rel {t : Ty} {x : t.2.D} {v : Value} (h : TyV G.S w t x v) : VR G w look (encTy t x) v := by
  obtain ⟨ag, s⟩ := t
  cases ag with
  | true =>
    obtain ⟨vs, rfl, hd⟩ := h
    exact ⟨vs, rfl, enc_rel hd⟩
  | false =>
    have h1 : DR G.S w s x [v] := h
    have h2 : All2 (CR G w look) (s.enc x) [v] := enc_rel h1
    show VR G w look ((s.enc x).headD .undef) v
    cases hh : s.enc x with
    | nil => rw [hh] at h2; exact h2.elim
    | cons c r => rw [hh] at h2; exact h2.1.vr

theorem decs_rel (hobj : ∀ o ob, look o = some ob → ObR B G w look o ob) : ∀ {l : List Ty} {avs : List AV} {vs : List Value} {x : (tyS l).D}, All2 (VR G w look) avs vs → decs look l avs = some x → TysV G.S w l x vs
  | [], avs, vs, x, h, e => by
    cases avs with
    | nil => cases vs with
      | nil => rfl
      | cons _ _ => exact h.elim
    | cons _ _ => simp [decs] at e
  | [t], avs, vs, x, h, e => by
    cases avs with
    | nil => simp [decs] at e
    | cons a r => cases r with
      | cons _ _ => simp [decs] at e
      | nil => cases vs with
        | nil => exact h.elim
        | cons v vs => cases vs with
          | cons _ _ => exact h.2.elim
          | nil => exact ⟨v, rfl, decTy_rel hobj h.1 (by simpa [decs] using e)⟩
  | t :: t' :: r, avs, vs, x, h, e => by
    cases avs with
    | nil => simp [decs] at e
    | cons a avs => cases vs with
      | nil => exact h.elim
      | cons v vs =>
        simp only [decs] at e
        split at e
        · rename_i y ys e1 e2
          simp at e; subst e
          exact ⟨v, vs, rfl, decTy_rel hobj h.1 e1, decs_rel hobj h.2 e2⟩
        · simp at e

theorem encs_rel : ∀ {l : List Ty} {x : (tyS l).D} {vs : List Value}, TysV G.S w l x vs → All2 (VR G w look) (encs l x) vs
  | [], x, vs, h => by simp only [TysV] at h; subst h; trivial
  | [t], x, vs, h => by obtain ⟨v, rfl, hv⟩ := h; exact ⟨encTy_rel hv, trivial⟩
  | t :: t' :: r, x, vs, h => by obtain ⟨v, vs', rfl, hv, hr⟩ := h; exact ⟨encTy_rel hv, encs_rel hr⟩

end
end Go.Pi
end

section
namespace Go.Pi
set_option linter.unusedVariables false
set_option linter.unusedSimpArgs false
open Go.RowKit

section
variable {P : Program} {B : Nat → Prop} {w0 : World} {S0 : Cells} {G G' : Gh} {outs : Outs} {σ : St} {a : Act} {w w' : World}

theorem bel_setRow {g : Nat} (hb : Bel B w0 w) (hBg : ¬ B g) (cs : Array Value) : Bel B w0 (w.setRow g cs) :=
  hb.trans ⟨rfl, rfl, rfl, by simp, fun k hk => setRow_other _ _ _ _ fun e => hBg (e ▸ hk), Nat.le_refl _⟩

/-- An object that nobody has touched. -/
theorem ObR.ext {look look' : Look} (hx : Ext G w look G' w' look') {p : Nat} {ob : Ob} (hM : G'.M p = G.M p)
    (hblk : ∀ b c, G.M p = some (b, c) → w'.heap[b]? = w.heap[b]? ∧ ∀ off, G'.S b off → G.S b off)
    (hgrow : ∀ b o, G.S b o → G'.S b o)
    (h : ObR B G w look p ob) : ObR B G' w' look' p ob := by
  cases ob with
  | cells fz cs =>
    obtain ⟨b, c, vs, ty, hm, hb, hh, ha, hs⟩ := h
    obtain ⟨h1, h2⟩ := hblk b c hm
    exact ⟨b, c, vs, ty, hM.trans hm, hb, h1.trans hh, ha.imp fun _ _ hc => CR.ext hx hc, fun e off hS => hs e off (h2 off hS)⟩
  | arr m ver s xs =>
    obtain ⟨hpos, h⟩ := h
    refine ⟨hpos, ?_⟩
    rw [hM]
    cases hm : G.M p with
    | none => rw [hm] at h; exact h
    | some q =>
      obtain ⟨b, cap⟩ := q
      rw [hm] at h
      obtain ⟨hb, vs, ty, hh, hsz, hle, hmx, hf, he, hS, hS2⟩ := h
      obtain ⟨h1, h2⟩ := hblk b cap hm
      refine ⟨hb, vs, ty, h1.trans hh, hsz, hle, hmx, hf, fun i x hxi => ?_, fun off ho => hS off (h2 off ho), fun e off ho => hgrow _ _ (hS2 e off ho)⟩
      obtain ⟨ws, hd, hw⟩ := he i x hxi
      exact ⟨ws, DR.mono hx.keeps hd, hw⟩
  | map ver ka va ks vs xs =>
    obtain ⟨b, c, es, clock, hm, hb, hh, ha, h2⟩ := h
    exact ⟨b, c, es, clock, hM.trans hm, hb, (hblk b c hm).1.trans hh, ha.imp fun _ _ he => he.mono hx.keeps, h2⟩
  | it mo ver ks vs left cur =>
    obtain ⟨b, c, bm, c', since, seen, last, ver', ka, va, ks', vs', xs, hm, hb, hh, hl, hle, hmm, hr⟩ := h
    obtain ⟨k1, ver'', xs', k2, k3, k4⟩ := hx.map mo ver' ka va ks' vs' xs hl
    refine ⟨b, c, bm, c', since, seen, last, ver'', ka, va, ks', vs', xs', hM.trans hm, hb, (hblk b c hm).1.trans hh, k2, Nat.le_trans hle k3, k1.trans hmm, fun e => ?_⟩
    have e1 : ver'' = ver' := by omega
    obtain ⟨h1, h2, es, clock, h3, h4, h5, ⟨L, h6, h7⟩, h8⟩ := hr (by omega)
    refine ⟨h1, h2, es, clock, ((k4 e1).2 bm c' hmm).trans h3, h4, h5, ⟨L, h6, h7.imp fun _ _ he => he.mono hx.keeps⟩, fun c hc => ?_⟩
    obtain ⟨e, he, h9, h10⟩ := h8 c hc
    exact ⟨e, he, h9.mono hx.keeps, h10⟩

/-- How one object may turn. -/
def Turn (G G' : Gh) (o : Nat) (ob' : Ob) : Option Ob → Prop
  | none => True
  | some (.cells _ _) => G'.M o = G.M o ∧ ∃ fz' cs', ob' = .cells fz' cs'
  | some (.arr m ver s xs) => ∃ m' ver' xs', ob' = .arr m' ver' s xs' ∧ m'.fix = m.fix ∧ ver ≤ ver' ∧ (m.fix ≠ none → ver' = ver) ∧
      (ver' = ver → G'.M o = G.M o ∧ xs'.length = xs.length)
  | some (.map ver ka va ks vs xs) => G'.M o = G.M o ∧ ∃ ver' xs', ob' = .map ver' ka va ks vs xs' ∧ ver < ver'
  | some (.it mo ver ks vs left cur) => G'.M o = G.M o ∧ ∃ left' cur', ob' = .it mo ver ks vs left' cur'

theorem Ext.upd1 {o : Nat} {ob' : Ob} {sto : List (Nat × Ob)} (hY : G'.Y = G.Y) (hk : Keeps G.S w G'.S w')
    (hM : ∀ p ob, p ≠ o → lk p sto = some ob → G'.M p = G.M p) (hblk : ∀ p ob b c, p ≠ o → lk p sto = some ob → G.M p = some (b, c) → w'.heap[b]? = w.heap[b]?) (hold : Turn G G' o ob' (lk o sto)) :
    Ext G w (fun p => lk p sto) G' w' (fun p => lk p (ups o ob' sto)) := by
  refine ⟨hk, fun p fz cs hp => ?_, fun p m ver s xs hp => ?_, hY, fun p ver ka va ks vs xs hp => ?_, fun p mo ver ks vs left cur hp => ?_⟩
  · by_cases e : p = o
    · subst e
      rw [hp] at hold
      obtain ⟨h1, fz', cs', h2⟩ := hold
      exact ⟨h1, fz', cs', by simp [lk_ups, h2]⟩
    · exact ⟨hM p _ e hp, fz, cs, by simp [lk_ups, e, hp]⟩
  · by_cases e : p = o
    · subst e
      rw [hp] at hold
      obtain ⟨m', ver', xs', h1, h2⟩ := hold
      exact ⟨m', ver', xs', by simp [lk_ups, h1], h2⟩
    · exact ⟨m, ver, xs, by simp [lk_ups, e, hp], rfl, Nat.le_refl _, fun _ => rfl, fun _ => ⟨hM p _ e hp, rfl⟩⟩
  · by_cases e : p = o
    · subst e
      rw [hp] at hold
      obtain ⟨h1, ver', xs', h2, h3⟩ := hold
      exact ⟨h1, ver', xs', by simp [lk_ups, h2], Nat.le_of_lt h3, fun e => by omega⟩
    · exact ⟨hM p _ e hp, ver, xs, by simp [lk_ups, e, hp], Nat.le_refl _, fun _ => ⟨rfl, fun b c hb => hblk p _ b c e hp hb⟩⟩
  · by_cases e : p = o
    · subst e
      rw [hp] at hold
      obtain ⟨h1, left', cur', h2⟩ := hold
      exact ⟨h1, left', cur', by simp [lk_ups, h2]⟩
    · exact ⟨hM p _ e hp, left, cur, by simp [lk_ups, e, hp]⟩

theorem Rel.upd1 (h : Rel B w0 S0 G outs σ a w) (hY : G'.Y = G.Y) (o : Nat) (ob' : Ob) (dt' dob' : List Nat)
    (hk : Keeps G.S w G'.S w')
    (hM : ∀ p ob, p ≠ o → lk p σ.sto = some ob → G'.M p = G.M p)
    (hblk : ∀ p ob b c, p ≠ o → lk p σ.sto = some ob → G.M p = some (b, c) → w'.heap[b]? = w.heap[b]? ∧ ∀ off, G'.S b off → G.S b off)
    (hold : Turn G G' o ob' (lk o σ.sto))
    (hnew : ObR B G' w' (fun p => lk p (ups o ob' σ.sto)) o ob')
    (hinj : ∀ p ob b c c', p ≠ o → lk p σ.sto = some ob → G.M p = some (b, c) → G'.M o = some (b, c') → False)
    (below : Bel B w0 w') (bsz : ∀ b, B b → b < w'.heap.size)
    (snew : ∀ b off, G'.S b off → G.S b off ∨ ¬ B b) (slt : ∀ b off, G'.S b off → b < w'.heap.size) :
    Rel B w0 S0 G' outs { σ with sto := ups o ob' σ.sto, dt := dt', dob := dob' } a w' := by
  have hx := Ext.upd1 (ob' := ob') hY hk hM (fun p ob b c e hp hb => (hblk p ob b c e hp hb).1) hold
  refine ⟨below, bsz, fun b off hs => (hk b off (h.s0 b off hs)).1, fun b off hs => ?_, slt, h.tml, fun t => VR.ext hx (h.tm t),
    h.outl.imp fun _ _ hl => ⟨hl.1, fun t => VR.ext hx (hl.2 t)⟩, fun p ob hp => ?_, fun p p' ob ob'' b c c' hp hp' hb hb' => ?_, hY.trans h.yeq⟩
  · rcases snew b off hs with h1 | h1
    · exact h.snew b off h1
    · exact .inr h1
  · by_cases e : p = o
    · subst e
      have : ob = ob' := by simpa [lk_ups] using hp.symm
      subst this
      exact hnew
    · have hp0 : lk p σ.sto = some ob := by simpa [lk_ups, e] using hp
      exact ObR.ext hx (hM p ob e hp0) (fun b c hb => hblk p ob b c e hp0 hb) (fun b off hs => (hk b off hs).1) (h.obj p ob hp0)
  · by_cases e : p = o
    · by_cases e' : p' = o
      · exact e.trans e'.symm
      · subst e
        have hp0 : lk p' σ.sto = some ob'' := by simpa [lk_ups, e'] using hp'
        rw [hM p' ob'' e' hp0] at hb'
        exact (hinj p' ob'' b c' c e' hp0 hb' hb).elim
    · have hp0 : lk p σ.sto = some ob := by simpa [lk_ups, e] using hp
      rw [hM p ob e hp0] at hb
      by_cases e' : p' = o
      · subst e'
        exact (hinj p ob b c c' e hp0 hb hb').elim
      · have hp0' : lk p' σ.sto = some ob'' := by simpa [lk_ups, e'] using hp'
        rw [hM p' ob'' e' hp0'] at hb'
        exact h.inj p p' ob ob'' b c c' hp0 hp0' hb hb'

theorem Pres.upd1 (σ : St) (dst : Option Tmp) (av : AV) (o : Nat) (ob : Ob) : Pres σ (appEff dst σ av [(o, ob)]) := by
  have h1 : Pres σ { σ with sto := ups o ob σ.sto, dob := o :: σ.dob } := by
    refine ⟨fun t => .inr (.inl rfl), fun t ht => ht, fun p => ?_, fun p hp => .tail _ hp, rfl, rfl⟩
    by_cases e : p = o
    · exact .inl (by simp [e])
    · exact .inr fun ob' hp => by simpa [lk_ups, e] using hp
  exact h1.trans (Pres.put { σ with sto := ups o ob σ.sto, dob := o :: σ.dob } dst av)

/-- A block of an object is below the heap's end. -/
theorem ObR.lt {look : Look} {p : Nat} {ob : Ob} {b c : Nat} (h : ObR B G w look p ob) (hm : G.M p = some (b, c)) : b < w.heap.size := by
  cases ob with
  | cells fz cs =>
    obtain ⟨b', c', vs, ty, hm', _, hh, _⟩ := h
    rw [hm] at hm'
    simp at hm'
    obtain ⟨rfl, _⟩ := hm'
    exact (Array.getElem?_eq_some_iff.1 hh).1
  | arr m ver s xs =>
    have h2 := h.2
    rw [hm] at h2
    obtain ⟨_, vs, ty, hh, _⟩ := h2
    exact (Array.getElem?_eq_some_iff.1 hh).1
  | map ver ka va ks vs xs =>
    obtain ⟨b', c', es, clock, hm', _, hh, _⟩ := h
    rw [hm] at hm'
    simp at hm'
    obtain ⟨rfl, _⟩ := hm'
    exact (Array.getElem?_eq_some_iff.1 hh).1
  | it mo ver ks vs left cur =>
    obtain ⟨b', c', bm, c2, since, seen, last, ver', ka, va, ks', vs', xs, hm', _, hh, _⟩ := h
    rw [hm] at hm'
    simp at hm'
    obtain ⟨rfl, _⟩ := hm'
    exact (Array.getElem?_eq_some_iff.1 hh).1

theorem ObR.ge {look : Look} {p : Nat} {ob : Ob} {b c : Nat} (h : ObR B G w look p ob) (hm : G.M p = some (b, c)) : ¬ B b := by
  cases ob with
  | cells fz cs =>
    obtain ⟨b', c', vs, ty, hm', hb, _⟩ := h
    rw [hm] at hm'
    simp at hm'
    obtain ⟨rfl, _⟩ := hm'
    exact hb
  | arr m ver s xs =>
    have h2 := h.2
    rw [hm] at h2
    exact h2.1
  | map ver ka va ks vs xs =>
    obtain ⟨b', c', es, clock, hm', hb, _⟩ := h
    rw [hm] at hm'
    simp at hm'
    obtain ⟨rfl, _⟩ := hm'
    exact hb
  | it mo ver ks vs left cur =>
    obtain ⟨b', c', bm, c2, since, seen, last, ver', ka, va, ks', vs', xs, hm', hb, _⟩ := h
    rw [hm] at hm'
    simp at hm'
    obtain ⟨rfl, _⟩ := hm'
    exact hb

/-- A new block and a new object for it. -/
theorem Rel.newAny (h : Rel B w0 S0 G outs σ a w) {site : Nat} (hs : lk site σ.sto = none) (ob : Ob) (x : Obj) (cap : Nat) (dt' dob' : List Nat)
    (hnew : ∀ look' : Look, Ext G w (lks σ) { G with M := fun p => if p = site then some (w.heap.size, cap) else G.M p } (w.alloc x) look' →
      ObR B { G with M := fun p => if p = site then some (w.heap.size, cap) else G.M p } (w.alloc x) look' site ob) :
    Rel B w0 S0 { G with M := fun p => if p = site then some (w.heap.size, cap) else G.M p } outs { σ with sto := ups site ob σ.sto, dt := dt', dob := dob' } a (w.alloc x) := by
  have hheap : ∀ b, b < w.heap.size → (w.alloc x).heap[b]? = w.heap[b]? := fun b hb => Below.heap_alloc w _ b hb
  have hk : Keeps G.S w G.S (w.alloc x) := fun b o hS => ⟨hS, World.cell?_alloc_lt w _ _ (h.slt b o hS)⟩
  have hM : ∀ p ob', p ≠ site → lk p σ.sto = some ob' → (if p = site then some (w.heap.size, cap) else G.M p) = G.M p := fun p _ e _ => by simp [e]
  have hold : Turn G { G with M := fun p => if p = site then some (w.heap.size, cap) else G.M p } site ob (lk site σ.sto) := by rw [hs]; trivial
  refine h.upd1 (G' := { G with M := fun p => if p = site then some (w.heap.size, cap) else G.M p }) rfl site ob dt' dob' hk hM (fun p ob' b c e hp hb => ⟨hheap b ((h.obj p ob' hp).lt hb), fun _ hS => hS⟩) hold
    (hnew _ (Ext.upd1 rfl hk hM (fun p ob' b c e hp hb => hheap b ((h.obj p ob' hp).lt hb)) hold)) (fun p ob' b c c' e hp hb hb' => ?_) (h.below.alloc h.bsz _) (fun b hb => by simp; exact Nat.lt_succ_of_lt (h.bsz b hb)) (fun b off hS => .inl hS) (fun b off hS => by simp; exact Nat.lt_succ_of_lt (h.slt b off hS))
  simp at hb'
  have := (h.obj p ob' hp).lt hb
  omega

theorem Rel.newOb (h : Rel B w0 S0 G outs σ a w) {site : Nat} (hs : lk site σ.sto = none) (ob : Ob) (vs : Array Value) (ty : TypeId) (cap : Nat) (dt' dob' : List Nat)
    (hnew : ∀ look' : Look, Ext G w (lks σ) { G with M := fun p => if p = site then some (w.heap.size, cap) else G.M p } (w.alloc (.cells vs ty)) look' →
      ObR B { G with M := fun p => if p = site then some (w.heap.size, cap) else G.M p } (w.alloc (.cells vs ty)) look' site ob) :
    Rel B w0 S0 { G with M := fun p => if p = site then some (w.heap.size, cap) else G.M p } outs { σ with sto := ups site ob σ.sto, dt := dt', dob := dob' } a (w.alloc (.cells vs ty)) :=
  h.newAny hs ob (.cells vs ty) cap dt' dob' hnew

end
end Go.Pi
end

section
namespace Go.Pi
open Go.RowKit
set_option linter.unusedSimpArgs false
set_option linter.unusedVariables false

/-- The machine's operation comes to a value (or to none). -/
def Done (P : Program) (o : Oper) (a : Act) (w : World) (v : Value) (w' : World) : Prop :=
  (execOp a.eval o).run P w = .ok (.value v) w' ∨ ((execOp a.eval o).run P w = .ok .skip w' ∧ v = Go.undef)

section
variable {P : Program} {B : Nat → Prop} {w0 : World} {S0 : Cells} {G : Gh} {outs : Outs} {σ : St} {a : Act} {w : World} {o : Oper}

/-- What is to be shown of an operation. -/
def OpOK (P : Program) (B : Nat → Prop) (w0 : World) (S0 : Cells) (outs : Outs) (σ : St) (a : Act) (w : World) (o : Oper) (e : Eff) : Prop :=
  (∃ v w' G', Done P o a w v w' ∧ Rel B w0 S0 G' outs (appEff o.dst σ e.val e.upd) (a.put o.dst v) w' ∧ e.room = true) ∨ False

theorem OpOK.of_value (h : Rel B w0 S0 G outs σ a w) {c : Bool} {p : Option Prop} {av : AV} {v : Value} (hv : VR G w (lks σ) av v) (hd : Done P o a w v w) : OpOK P B w0 S0 outs σ a w o ⟨c, true, p, av, []⟩ :=
  .inl ⟨v, w, G, hd, h.put o.dst hv, rfl⟩

theorem one_eq {v : AV} {e : Eff} (h : one v = some e) : e = ⟨true, true, none, v, []⟩ := by simp [one] at h; exact h.symm
theorem chk1_eq {c : Bool} {v : AV} {e : Eff} (h : chk1 c v = some e) : e = ⟨c, true, none, v, []⟩ := by simp [chk1] at h; exact h.symm

theorem VR.int {k : IntKind} {n : Int} {look : Look} {v : Value} (h : VR G w look (.int k n) v) : v = .int k n := h
theorem VR.bool {b : Bool} {look : Look} {v : Value} (h : VR G w look (.bool b) v) : v = .bool b := h
theorem VR.str {b : ByteArray} {look : Look} {v : Value} (h : VR G w look (.str b) v) : v = .string b := h

theorem op_move (h : Rel B w0 S0 G outs σ a w) {x : Operand} (ho : o.op = .move x ∨ o.op = .assign x) {e : Eff} (he : one (ev σ.tm x) = some e) : OpOK P B w0 S0 outs σ a w o e := by
  rw [one_eq he]
  refine OpOK.of_value h (ev_rel h x) (.inl ?_)
  rcases ho with ho | ho <;> (unfold execOp; simp only [ho]; rfl)

theorem op_nilCheck (h : Rel B w0 S0 G outs σ a w) {x : Operand} (ho : o.op = .nilCheck x) {p off : Nat} (hx : ev σ.tm x = .ptr p off) {e : Eff} (he : one (.ptr p off) = some e) : OpOK P B w0 S0 outs σ a w o e := by
  rw [one_eq he]
  have hv := ev_rel h x
  rw [hx] at hv
  refine OpOK.of_value h hv (.inl ?_)
  obtain ⟨_, b, c, _, hv⟩ := hv
  have hv : a.eval x = .pointer (some ⟨b, off, none⟩) := hv
  unfold execOp
  simp only [ho, hv]
  rfl

theorem op_pick (h : Rel B w0 S0 G outs σ a w) {c x y : Operand} (ho : o.op = .pick c x y) {b : Bool} (hc : ev σ.tm c = .bool b) {e : Eff}
    (he : one (match b with | true => ev σ.tm x | false => ev σ.tm y) = some e) : OpOK P B w0 S0 outs σ a w o e := by
  rw [one_eq he]
  have h1 : a.eval c = .bool b := by have := ev_rel h c; rw [hc] at this; exact this
  cases b with
  | true =>
    refine OpOK.of_value h (ev_rel h x) (.inl ?_)
    unfold execOp; simp only [ho, h1, asBool, Sem.run_bind, Sem.run_pure, Result.andThen_ok, if_true]
  | false =>
    refine OpOK.of_value h (ev_rel h y) (.inl ?_)
    unfold execOp; simp [ho, h1, asBool]

/-! ### types -/
theorem zero_run {t : TypeId} {cs : List AV} (h : zeroCs P t = some cs) : ∃ v, (∀ w : World, (zeroValue t).run P w = .ok v w) ∧ ∀ (G : Gh) (w : World) (look : Look), All2 (CR G w look) cs v.cells.toList := by
  unfold zeroCs at h
  split at h
  · rename_i i hi
    split at h
    · rename_i vs hz
      refine ⟨.agg vs, fun w => by simp [zeroValue, typeInfo, hi, hz], fun G w look => ?_⟩
      simpa [Value.cells] using ofVs_rel G w look h
    · rename_i v hv hz
      split at h
      · rename_i av ha
        simp at h; subst h
        refine ⟨v, fun w => by simp [zeroValue, typeInfo, hi, hz], fun G w look => ?_⟩
        have := ofV0_rel ha G w look
        rw [Leaf.cells this.2]
        exact ⟨this, trivial⟩
      · simp at h
    · simp at h
  · simp at h

theorem size_run {t : TypeId} (h : (P.info? t).isSome = true) (w : World) : (sizeOf t).run P w = .ok (szOf P t) w := by
  cases hi : P.info? t with
  | none => simp [hi] at h
  | some i => simp [sizeOf, typeInfo, hi, szOf]

theorem info_of_under {t : TypeId} {d : TypeDesc} (h : P.underlying t = some d) : (P.info? t).isSome = true := by
  unfold Program.underlying at h
  split at h <;> simp_all

theorem isAgg_run {t : TypeId} (h : (P.underlying t).isSome = true) (w : World) : (isAgg t).run P w = .ok (isAggT P t) w := by
  cases hu : P.underlying t with
  | none => simp [hu] at h
  | some d =>
    unfold isAgg isAggT
    rw [Sem.run_bind, run_underlying hu w]
    cases d <;> simp [hu]

end
end Go.Pi
end

section
namespace Go.Pi
open Go.RowKit
set_option linter.unusedSimpArgs false
set_option linter.unusedVariables false

section
variable {P : Program} {B : Nat → Prop} {w0 : World} {S0 : Cells} {G : Gh} {outs : Outs} {σ : St} {a : Act} {w : World} {o : Oper} {look : Look}

/-- Cells at an address. -/
def CellsAt (w : World) (b off : Nat) (vs : List Value) : Prop := ∀ (j : Nat) (x : Value), vs[j]? = some x → w.cell? ⟨b, off + j, none⟩ = some x

theorem CellsAt.seg {b p off n : Nat} {ws : List Value} (h : CellsAt w b p ws) : CellsAt w b (p + off) ((ws.drop off).take n) := by
  intro j x hx
  rw [List.getElem?_take] at hx
  split at hx
  · rw [List.getElem?_drop] at hx
    have := h (off + j) x hx
    rwa [← Nat.add_assoc] at this
  · simp at hx

theorem CellsAt.block {b : Nat} {vs : Array Value} {ty : TypeId} (h : w.heap[b]? = some (.cells vs ty (0, 0))) : CellsAt w b 0 vs.toList := by
  intro j x hx
  rw [cell_of_block h, Nat.zero_add]
  simpa using hx

theorem getD_of_lt {α : Type} {l : List α} {i : Nat} (h : i < l.length) (d : α) : l[i]? = some (l.getD i d) := by
  simp [List.getD_eq_getElem?_getD, List.getElem?_eq_getElem h]

theorem encN_rel {s : Sch} {xs : List s.D} (hobj : True) {vs : List Value} (hd : DRN G.S w s xs vs) : ∀ (m i : Nat), i + m ≤ xs.length → All2 (CR G w look) (encN s xs m i) ((vs.drop (i * s.size)).take (m * s.size))
  | 0, i, _ => by simp [encN, All2]
  | m + 1, i, h => by
    have h1 := hd.2 i _ (getD_of_lt (by omega) s.dflt)
    have h2 := encN_rel hobj hd m (i + 1) (by omega)
    have h3 : (vs.drop (i * s.size)).take ((m + 1) * s.size) = ((vs.drop (i * s.size)).take s.size) ++ ((vs.drop ((i + 1) * s.size)).take (m * s.size)) := by
      have e1 : (m + 1) * s.size = s.size + m * s.size := by rw [Nat.add_mul]; omega
      have e2 : (i + 1) * s.size = i * s.size + s.size := by rw [Nat.add_mul]; omega
      rw [e1, List.take_add, e2, List.drop_drop]
    rw [h3]
    simp only [encN]
    exact (enc_rel h1).append h2

/-- The elements of an object, one after the other. -/
theorem ArrR.drn {S : Cells} {b cap : Nat} {m : Mode} {s : Sch} {xs : List s.D} (h : ArrR S w B (some (b, cap)) m s xs) : ∃ vs ty, w.heap[b]? = some (.cells vs ty (0, 0)) ∧ vs.size = cap * s.size ∧ xs.length ≤ cap ∧ DRN S w s xs (vs.toList.take (xs.length * s.size)) := by
  obtain ⟨_, vs, ty, hb, hsz, hle, _, _, he, _⟩ := h
  have hm : xs.length * s.size ≤ vs.size := hsz ▸ Nat.mul_le_mul_right _ hle
  refine ⟨vs, ty, hb, hsz, hle, by simp [List.length_take]; exact Nat.min_eq_left hm, fun i x hx => ?_⟩
  obtain ⟨ws, hd, hw⟩ := he i x hx
  have hi : i < xs.length := by
    rcases Nat.lt_or_ge i xs.length with h1 | h1
    · exact h1
    · rw [List.getElem?_eq_none h1] at hx; simp at hx
  have hl := hd.length
  have hlt : i * s.size + s.size ≤ xs.length * s.size := by
    have : (i + 1) * s.size ≤ xs.length * s.size := Nat.mul_le_mul_right _ hi
    rwa [Nat.add_mul, Nat.one_mul] at this
  have e : ((vs.toList.take (xs.length * s.size)).drop (i * s.size)).take s.size = ws := by
    apply List.ext_getElem?
    intro j
    by_cases hj : j < s.size
    · have hj' : j < ws.length := by omega
      have h2 := hw j _ (List.getElem?_eq_getElem hj')
      rw [List.getElem?_take, if_pos hj, List.getElem?_drop, List.getElem?_take, if_pos (by omega), List.getElem?_eq_getElem hj']
      simpa using h2
    · rw [List.getElem?_take, if_neg hj, List.getElem?_eq_none (by omega)]
  rw [e]
  exact hd

theorem read_rel (hobj : ∀ o ob, look o = some ob → ObR B G w look o ob) {av : AV} {v : Value} {n : Nat} {c : Bool} {cs : List AV} (hv : VR G w look av v) (hr : readPtr look n av = some (c, cs)) (hc : c = true) :
    ∃ b off vs, v = .pointer (some ⟨b, off, none⟩) ∧ vs.length = n ∧ All2 (CR G w look) cs vs ∧ CellsAt w b off vs := by
  cases av <;> simp only [readPtr] at hr <;> try (simp at hr; done)
  case ptr o off =>
    obtain ⟨⟨ob, ho, hst⟩, b, cp, hm, rfl⟩ := hv
    rw [ho] at hr
    cases ob with
    | map _ _ _ _ _ _ => simp at hr
    | it _ _ _ _ _ _ => simp at hr
    | cells fz l =>
      simp only at hr
      split at hr
      · rename_i hle
        simp at hr
        obtain ⟨rfl, rfl⟩ := hr
        obtain ⟨b', c', vs, ty, hm', _, hh, ha, _⟩ := hobj o _ ho
        rw [hm] at hm'
        simp at hm'
        obtain ⟨rfl, _⟩ := hm'
        have hl := ha.length
        refine ⟨b, off, (vs.toList.drop off).take n, rfl, ?_, (ha.drop off).take n, ?_⟩
        · rw [List.length_take, List.length_drop]; omega
        · have := (CellsAt.block hh).seg (off := off) (n := n)
          rwa [Nat.zero_add] at this
      · simp at hr
    | arr m ver s xs =>
      cases m with
      | uniq => exact (hst rfl).elim
      | grow => exact (hst rfl).elim
      | fixed k =>
        simp only at hr
        cases off with
        | succ _ => simp at hr
        | zero =>
          simp only at hr
          split at hr
          · rename_i hdiv
            simp at hr
            obtain ⟨hlen, rfl⟩ := hr
            obtain ⟨hpos, hA⟩ := hobj o _ ho
            rw [hm] at hA
            have hfix : cp = k ∧ xs.length = k := by
              obtain ⟨_, _, _, _, _, _, _, hf, _⟩ := hA
              exact hf k rfl
            obtain ⟨vs, ty, hh, hsz, hle, hd⟩ := hA.drn
            have hn : xs.length * s.size = n := by rw [hfix.2]; exact hdiv
            refine ⟨b, 0, vs.toList.take (xs.length * s.size), rfl, ?_, ?_, ?_⟩
            · simp only [List.length_take, Array.length_toList (xs := vs), hsz, hfix.1, hfix.2, Nat.min_self]; exact hdiv
            · have := encN_rel (look := look) trivial hd k 0 (by omega)
              simp only [Nat.zero_mul, List.drop_zero] at this
              rw [hdiv, List.take_take, hn, Nat.min_self] at this
              rw [hn]
              exact this
            · have := (CellsAt.block hh).seg (off := 0) (n := xs.length * s.size)
              simpa using this
          · simp at hr
  case ptre o ver i off =>
    obtain ⟨hleaf, m, ver', s, xs, ho, hle, hr2⟩ := hv
    rw [ho] at hr
    simp only at hr
    split at hr
    · rename_i hver
      split at hr
      · rename_i hoff
        simp at hr
        obtain ⟨rfl, rfl⟩ := hr
        obtain ⟨hi, b, cp, hm, rfl⟩ := hr2 hver
        obtain ⟨hpos, hA⟩ := hobj o _ ho
        rw [hm] at hA
        obtain ⟨_, vs, ty, hh, hsz, hlen, _, _, he, _⟩ := hA
        obtain ⟨ws, hd, hw⟩ := he i _ (getD_of_lt hi s.dflt)
        have hl := hd.length
        refine ⟨b, i * s.size + off, (ws.drop off).take n, rfl, ?_, ((enc_rel hd).drop off).take n, ?_⟩
        · rw [List.length_take, List.length_drop]; omega
        · have h1 : CellsAt w b (i * s.size) ws := fun j x hx => by
            rw [cell_of_block hh]; exact hw j x hx
          exact h1.seg
      · simp at hr
    · simp at hr
  case pel s xs i off =>
    obtain ⟨hi, b, o0, he, rfl⟩ := hv
    split at hr
    · rename_i hoff
      simp at hr
      obtain ⟨rfl, rfl⟩ := hr
      obtain ⟨ws, hd, hw⟩ := he i _ (getD_of_lt hi s.dflt)
      have hl := hd.length
      refine ⟨b, o0 + i * s.size + off, (ws.drop off).take n, rfl, ?_, ((enc_rel hd).drop off).take n, ?_⟩
      · rw [List.length_take, List.length_drop]; omega
      · have h1 : CellsAt w b (o0 + i * s.size) ws := fun j x hx => (hw j x hx).2
        exact h1.seg
    · simp at hr
  case pix o base s m i off =>
    obtain ⟨hi, ⟨ob, ho, hst⟩, b, cp, hm, rfl⟩ := hv
    rw [ho] at hr
    cases ob with
    | arr _ _ _ _ => simp at hr
    | map _ _ _ _ _ _ => simp at hr
    | it _ _ _ _ _ _ => simp at hr
    | cells fz l =>
      simp only at hr
      split at hr
      · rename_i hcond
        split at hr
        · rename_i xs hx
          simp at hr
          obtain ⟨rfl, rfl⟩ := hr
          obtain ⟨b', c', vs, ty, hm', _, hh, ha, _⟩ := hobj o _ ho
          rw [hm] at hm'
          simp at hm'
          obtain ⟨rfl, _⟩ := hm'
          obtain ⟨hxl, hdn⟩ := decN_rel ((ha.drop base).take (m * s.size)) hx
          have hd := hdn.2 i _ (getD_of_lt (by omega) s.dflt)
          have hl := hd.length
          have hC : CellsAt w b (base + i * s.size) (((((vs.toList.drop base).take (m * s.size))).drop (i * s.size)).take s.size) := by
            have h1 := (CellsAt.block hh).seg (off := base) (n := m * s.size)
            rw [Nat.zero_add] at h1
            exact h1.seg
          refine ⟨b, base + i * s.size + off, _, rfl, ?_, ((enc_rel hd).drop off).take n, hC.seg⟩
          rw [List.length_take, List.length_drop, hl]; omega
        · simp at hr
      · simp at hr

/-- load -/
theorem loadVar_run {t : TypeId} {b off : Nat} {vs : List Value} (hu : (P.underlying t).isSome = true) (hn : vs.length = szOf P t) (hs : isAggT P t = false → szOf P t = 1) (hC : CellsAt w b off vs) :
    (loadVar t ⟨b, off, none⟩).run P w = .ok (if isAggT P t then .agg vs.toArray else vs.headD Go.undef) w := by
  have hadd : ∀ j, (⟨b, off, none⟩ : Addr).add j = ⟨b, off + j, none⟩ := fun j => by unfold Addr.add; split <;> simp_all
  have hi : (P.info? t).isSome = true := by
    cases h : P.underlying t with
    | none => simp [h] at hu
    | some d => exact info_of_under h
  unfold loadVar
  rw [Sem.run_bind, isAgg_run hu w, Result.andThen_ok]
  cases hag : isAggT P t with
  | true =>
    simp only [if_true, Sem.run_bind, size_run hi w, Result.andThen_ok]
    have := run_loadCells_list (P := P) w ⟨b, off, none⟩ vs (fun j v hv => by rw [hadd]; exact hC j v hv)
    rw [hn] at this
    rw [this]
    rfl
  | false =>
    have h1 : vs.length = 1 := hn.trans (hs hag)
    obtain ⟨v, rfl⟩ : ∃ v, vs = [v] := by
      cases vs with
      | nil => simp at h1
      | cons v r => cases r with
        | nil => exact ⟨v, rfl⟩
        | cons _ _ => simp at h1
    have h2 := hC 0 v rfl
    rw [Nat.add_zero] at h2
    simp [h2]

theorem wrapAgg_rel {ag : Bool} {cs : List AV} {vs : List Value} (hn : cs.length = 1 ∨ ag = true) (h : All2 (CR G w look) cs vs) : VR G w look (wrapAgg ag cs) (if ag then .agg vs.toArray else vs.headD Go.undef) := by
  cases ag with
  | true => exact ⟨vs.toArray, rfl, by simpa using h⟩
  | false =>
    cases cs with
    | nil => simp at hn
    | cons c r =>
      cases vs with
      | nil => exact h.elim
      | cons v r' => exact h.1.vr

end
end Go.Pi
end

section
namespace Go.Pi
open Go.RowKit
set_option linter.unusedSimpArgs false
set_option linter.unusedVariables false

theorem setL_eq {α : Type} (x : α) (i : Nat) : ∀ (l : List α) (j : Nat), setL x i l j = if j ≤ i then l.set (i - j) x else l
  | [], j => by simp [setL]
  | a :: r, j => by
    have ih := setL_eq x i r (j + 1)
    rw [setL, ih]
    by_cases h : i = j
    · subst h
      simp
      intro h2; omega
    · by_cases h2 : j ≤ i
      · have h3 : j + 1 ≤ i := by omega
        have h4 : i - j = (i - (j + 1)) + 1 := by omega
        simp [h, h2, h3, h4]
      · have h3 : ¬ (j + 1 ≤ i) := by omega
        simp [h, h2, h3]

def spliceV (l : List Value) (off : Nat) (ws : List Value) : List Value := l.take off ++ ws ++ l.drop (off + ws.length)

theorem All2.splice {R : AV → Value → Prop} {cs vs : List AV} {l ws : List Value} (h : All2 R cs l) (h' : All2 R vs ws) (off : Nat) (hle : off + vs.length ≤ cs.length) : All2 R (Pi.splice cs off vs) (spliceV l off ws) := by
  unfold Pi.splice spliceV
  rw [← h'.length]
  exact ((h.take off).append h').append (h.drop _)

theorem spliceV_length {l ws : List Value} {off : Nat} (h : off + ws.length ≤ l.length) : (spliceV l off ws).length = l.length := by
  simp [spliceV, List.length_take, List.length_drop]; omega

theorem spliceV_get (l : List Value) (off : Nat) (ws : List Value) (h : off + ws.length ≤ l.length) (j : Nat) :
    (spliceV l off ws)[j]? = if off ≤ j ∧ j < off + ws.length then ws[j - off]? else l[j]? := by
  unfold spliceV
  by_cases h1 : j < off
  · rw [List.append_assoc, List.getElem?_append_left (by simp [List.length_take]; omega), List.getElem?_take, if_pos h1, if_neg (by omega)]
  · by_cases h2 : j < off + ws.length
    · rw [List.getElem?_append_left (by simp [List.length_take]; omega), List.getElem?_append_right (by simp [List.length_take]; omega), if_pos ⟨by omega, h2⟩]
      congr 1
      simp [List.length_take]; omega
    · rw [List.getElem?_append_right (by simp [List.length_take]; omega), List.getElem?_drop, if_neg (by omega)]
      congr 1
      simp [List.length_take]; omega

theorem spliceV_all {l ws : List Value} (h : ws.length = l.length) : spliceV l 0 ws = ws := by simp [spliceV, h]

section
variable {P : Program} {B : Nat → Prop} {w0 : World} {S0 : Cells} {G : Gh} {outs : Outs} {σ : St} {a : Act} {w : World} {o : Oper} {look : Look}

theorem DRN.get {S : Cells} {s : Sch} {xs : List s.D} {vs : List Value} (h : DRN S w s xs vs) (i : Nat) (x : s.D) (hx : xs[i]? = some x) : ∃ ws, DR S w s x ws ∧ ∀ (j : Nat) (v : Value), ws[j]? = some v → vs[i * s.size + j]? = some v := by
  refine ⟨_, h.2 i x hx, fun j v hv => ?_⟩
  rw [List.getElem?_take] at hv
  split at hv
  · rwa [List.getElem?_drop] at hv
  · simp at hv

theorem DRN.set {S : Cells} {s : Sch} {xs : List s.D} {vs ws : List Value} {i off : Nat} {x : s.D} (h : DRN S w s xs vs) (hi : i < xs.length) (hoff : off + ws.length ≤ s.size)
    (hd : DR S w s x (spliceV ((vs.drop (i * s.size)).take s.size) off ws)) : DRN S w s (xs.set i x) (spliceV vs (i * s.size + off) ws) := by
  have hlt : i * s.size + s.size ≤ xs.length * s.size := by
    have : (i + 1) * s.size ≤ xs.length * s.size := Nat.mul_le_mul_right _ hi
    rwa [Nat.add_mul, Nat.one_mul] at this
  have hv := h.1
  have hfit : i * s.size + off + ws.length ≤ vs.length := by omega
  refine ⟨by rw [spliceV_length hfit, hv, List.length_set], fun k y hy => ?_⟩
  by_cases e : k = i
  · subst e
    rw [List.getElem?_set_self hi] at hy
    simp at hy
    subst hy
    have e2 : ((spliceV vs (k * s.size + off) ws).drop (k * s.size)).take s.size = spliceV ((vs.drop (k * s.size)).take s.size) off ws := by
      have hl2 : ((vs.drop (k * s.size)).take s.size).length = s.size := by simp [List.length_take, List.length_drop]; omega
      apply List.ext_getElem?
      intro j
      rw [List.getElem?_take, List.getElem?_drop, spliceV_get _ _ _ hfit, spliceV_get _ _ _ (by omega)]
      by_cases h1 : j < s.size
      · rw [if_pos h1]
        by_cases h2 : off ≤ j ∧ j < off + ws.length
        · rw [if_pos h2, if_pos (by omega)]
          congr 1; omega
        · rw [if_neg h2, if_neg (by omega), List.getElem?_take, if_pos h1, List.getElem?_drop]
      · rw [if_neg h1, if_neg (by omega), List.getElem?_eq_none (by omega)]
    rw [e2]
    exact hd
  · rw [List.getElem?_set_ne (fun e' => e e'.symm)] at hy
    have h1 := h.2 k y hy
    have hk : k < xs.length := by
      rcases Nat.lt_or_ge k xs.length with h2 | h2
      · exact h2
      · rw [List.getElem?_eq_none h2] at hy; simp at hy
    have e2 : ((spliceV vs (i * s.size + off) ws).drop (k * s.size)).take s.size = (vs.drop (k * s.size)).take s.size := by
      apply List.ext_getElem?
      intro j
      rw [List.getElem?_take, List.getElem?_drop, spliceV_get _ _ _ hfit, List.getElem?_take, List.getElem?_drop]
      by_cases h2 : j < s.size
      · rw [if_pos h2, if_pos h2, if_neg ?_]
        rintro ⟨h3, h4⟩
        rcases Nat.lt_or_gt_of_ne e with h5 | h5
        · have : (k + 1) * s.size ≤ i * s.size := Nat.mul_le_mul_right _ h5
          rw [Nat.add_mul] at this; omega
        · have : (i + 1) * s.size ≤ k * s.size := Nat.mul_le_mul_right _ h5
          rw [Nat.add_mul] at this; omega
      · rw [if_neg h2, if_neg h2]
    rw [e2]
    exact h1

theorem encL_rel {s : Sch} : ∀ {xs : List s.D} {vs : List Value}, DRN G.S w s xs vs → All2 (CR G w look) (encL s xs) vs
  | [], vs, h => by
    have := h.1
    simp at this
    subst this
    trivial
  | x :: r, vs, h => by
    have h1 := h.2 0 x rfl
    simp only [Nat.zero_mul, List.drop_zero] at h1
    have h2 : DRN G.S w s r (vs.drop s.size) := by
      refine ⟨by rw [List.length_drop, h.1]; simp [Nat.add_mul], fun i y hy => ?_⟩
      have h3 := h.2 (i + 1) y (by simpa using hy)
      rw [List.drop_drop]
      rwa [show s.size + i * s.size = (i + 1) * s.size by rw [Nat.add_mul]; omega]
    have h3 := (enc_rel (look := look) h1).append (encL_rel h2)
    rwa [List.take_append_drop] at h3

/-- Stores into a block. -/
theorem storeVar_run {t : TypeId} {b off : Nat} {cur : Array Value} {ty : TypeId} {v : Value} (hb : w.heap[b]? = some (.cells cur ty (0, 0))) (hi : (P.info? t).isSome = true) (hn : v.cells.size = szOf P t)
    (hl : ∀ u ∈ v.cells.toList, Leaf u) (hfit : off + v.cells.size ≤ cur.size) :
    (storeVar t ⟨b, off, none⟩ v).run P w = .ok () (w.setRow b (spliceV cur.toList off v.cells.toList).toArray) := by
  have h1 : ∀ u ∈ v.cells.toList, u.oneCell' = true := fun u hu => by
    have := hl u hu
    cases u <;> first | rfl | exact this.elim
  have h2 := run_storeCells_at P b off ty v.cells.toList 0 cur w hb (by simpa using hfit) h1
  unfold storeVar
  simp only [Sem.run_bind, size_run hi w, Result.andThen_ok, hn, ne_eq, not_true_eq_false, if_false]
  simpa [spliceV] using h2

/-- Writing through a pointer. -/
theorem write_rel (h : Rel B w0 S0 G outs σ a w) {av : AV} {v : Value} {vs : List AV} {ws : List Value} {c : Bool} {p : Nat} {ob' : Ob} (hvs : All2 (CR G w (lks σ)) vs ws) (hv : VR G w (lks σ) av v)
    (hw : writePtr (lks σ) vs av = some (c, p, ob')) (hc : c = true) (dt' dob' : List Nat) :
    ∃ b off cur ty, v = .pointer (some ⟨b, off, none⟩) ∧ w.heap[b]? = some (.cells cur ty (0, 0)) ∧ off + ws.length ≤ cur.size ∧
      Rel B w0 S0 G outs { σ with sto := ups p ob' σ.sto, dt := dt', dob := dob' } a (w.setRow b (spliceV cur.toList off ws).toArray) := by
  -- what is common: the block of object p is written, nothing marked lies there
  have key : ∀ (ob : Ob) (b cp : Nat) (cur : Array Value) (ty : TypeId) (new : Array Value), lk p σ.sto = some ob → G.M p = some (b, cp) → w.heap[b]? = some (.cells cur ty (0, 0)) → (∀ off, ¬ G.S b off) → ¬ B b →
      Turn G G p ob' (some ob) →
      (∀ look' : Look, Ext G w (lks σ) G (w.setRow b new) look' → Keeps G.S w G.S (w.setRow b new) → ObR B G (w.setRow b new) look' p ob') →
      Rel B w0 S0 G outs { σ with sto := ups p ob' σ.sto, dt := dt', dob := dob' } a (w.setRow b new) := by
    intro ob b cp cur ty new hp hm hb hS hB hT hN
    have hk : Keeps G.S w G.S (w.setRow b new) := fun b' o' hs => ⟨hs, cell_setRow_other w b new _ (fun e => by
      simp only at e; subst e; exact hS _ hs)⟩
    have hold : Turn G G p ob' (lk p σ.sto) := by rw [hp]; exact hT
    have hM : ∀ q ob'', q ≠ p → lk q σ.sto = some ob'' → G.M q = G.M q := fun _ _ _ _ => rfl
    refine h.upd1 (G' := G) rfl p ob' dt' dob' hk hM (fun q ob'' b'' c'' e hq hb'' => ⟨setRow_other w b b'' new (fun e' => ?_), fun _ hs => hs⟩) hold (hN _ (Ext.upd1 rfl hk hM (fun q ob'' b'' c'' e hq hb'' => setRow_other w b b'' new (fun e' => e (h.inj q p ob'' ob b c'' cp hq hp (e' ▸ hb'') hm))) hold) hk)
      (fun q ob'' b'' c'' c3 e hq hb'' hb3 => ?_) (bel_setRow h.below hB new) (by simpa using h.bsz) (fun b' o' hs => .inl hs) (fun b' o' hs => by simpa using h.slt b' o' hs)
    · subst e'
      exact e (h.inj q p ob'' ob b'' c'' cp hq hp hb'' hm)
    · exact e (h.inj q p ob'' ob b'' c'' c3 hq hp hb'' hb3)
  cases av <;> simp only [writePtr] at hw <;> try (simp at hw; done)
  case ptr o off =>
    obtain ⟨⟨ob, ho, hst⟩, b, cp, hm, rfl⟩ := hv
    rw [ho] at hw
    cases ob with
    | map _ _ _ _ _ _ => simp at hw
    | it _ _ _ _ _ _ => simp at hw
    | cells fz l =>
      cases fz with
      | true => simp at hw
      | false =>
        simp only at hw
        split at hw
        · rename_i hle
          simp at hw
          obtain ⟨rfl, rfl, rfl⟩ := hw
          obtain ⟨b', c', cur, ty, hm', hB, hh, ha, hS⟩ := h.obj o _ ho
          rw [hm] at hm'
          simp at hm'
          obtain ⟨rfl, rfl⟩ := hm'
          have hl := ha.length
          have hl2 := hvs.length
          have hfit : off + ws.length ≤ cur.size := by rw [← hl2]; simp at hl; omega
          refine ⟨b, off, cur, ty, rfl, hh, hfit, key _ b cp cur ty _ ho hm hh (hS rfl) hB ⟨rfl, _, _, rfl⟩ fun look' hx hk => ?_⟩
          refine ⟨b, cp, _, ty, hm, hB, setRow_heap w b cur _ ty _ hh, ?_, fun _ => hS rfl⟩
          simpa using (ha.imp fun _ _ hc => CR.ext hx hc).splice (hvs.imp fun _ _ hc => CR.ext hx hc) off hle
        · simp at hw
    | arr m ver s xs =>
      cases m with
      | uniq => exact (hst rfl).elim
      | grow => exact (hst rfl).elim
      | fixed mk =>
        simp only at hw
        cases off with
        | succ _ => simp at hw
        | zero =>
          simp only at hw
          split at hw
          · rename_i ys hys
            simp at hw
            obtain ⟨rfl, rfl, rfl⟩ := hw
            have hO := h.obj o _ ho
            obtain ⟨hpos, hA⟩ := hO
            rw [hm] at hA
            obtain ⟨hB, cur, ty, hh, hsz, hle, hmx, hf, he, hS, hS2⟩ := hA
            obtain ⟨hf1, hf2⟩ := hf mk rfl
            obtain ⟨hyl, hdn⟩ := decN_rel (purs_rel h.obj hvs) hys
            have hwl : ws.length = cur.size := by rw [hdn.1, hsz, hf1, hyl]
            have hnoS : ∀ off, ¬ G.S b off := fun off hs => by have := (hS off hs).1; simp at this
            refine ⟨b, 0, cur, ty, rfl, hh, by omega, key _ b cp cur ty _ ho hm hh hnoS hB ⟨.fixed mk, ver, ys, rfl, rfl, Nat.le_refl _, fun _ => rfl, fun _ => ⟨rfl, by omega⟩⟩ fun look' hx hk => ?_⟩
            refine ⟨hpos, ?_⟩
            rw [hm]
            refine ⟨hB, _, ty, setRow_heap w b cur _ ty _ hh, ?_, by omega, fun e => by simp [Mode.fix] at e, fun k hk' => by simp [Mode.fix] at hk'; omega, fun i x hxi => ?_, fun off hs => (hnoS off hs).elim, fun e => by simp at e⟩
            · rw [spliceV_all (by simpa using hwl)]
              simpa [hwl] using hsz
            · obtain ⟨us, hd, hu⟩ := hdn.get i x hxi
              refine ⟨us, DR.mono hk hd, fun j u huj => ?_⟩
              rw [spliceV_all (by simpa using hwl)]
              simpa using hu j u huj
          · simp at hw
  case ptre o ver i off =>
    obtain ⟨hleaf, m, ver', s, xs, ho, hle, hr2⟩ := hv
    rw [ho] at hw
    simp only at hw
    split at hw
    · rename_i hver
      split at hw
      · rename_i hoff
        split at hw
        · rename_i x hx
          simp at hw
          obtain ⟨rfl, rfl, rfl⟩ := hw
          obtain ⟨hi, b, cp, hm, rfl⟩ := hr2 hver.1
          have hO := h.obj o _ ho
          obtain ⟨hpos, hA⟩ := hO
          rw [hm] at hA
          have hA0 := hA
          obtain ⟨hB, cur, ty, hh, hsz, hlen, hmx, hf, he, hS, hS2⟩ := hA
          obtain ⟨cur', ty', hh', _, _, hdn⟩ := hA0.drn
          rw [hh] at hh'
          simp at hh'
          obtain ⟨rfl, rfl⟩ := hh'
          have hl2 := hvs.length
          have hnoS : ∀ off, ¬ G.S b off := fun off hs => hver.2 (hS off hs).1
          have hlt : i * s.size + s.size ≤ xs.length * s.size := by
            have : (i + 1) * s.size ≤ xs.length * s.size := Nat.mul_le_mul_right _ hi
            rwa [Nat.add_mul, Nat.one_mul] at this
          have hcap : xs.length * s.size ≤ cur.size := hsz ▸ Nat.mul_le_mul_right _ hlen
          have hdi := hdn.2 i _ (getD_of_lt hi s.dflt)
          have hel := (enc_rel (look := lks σ) hdi)
          have hell := hel.length
          have hdl := hdi.length
          have hsp := hel.splice (purs_rel h.obj hvs) off (by rw [List.length_map, hell, hdl]; exact hoff)
          have hdx := dec_all hsp hx
          have hset := hdn.set (ws := ws) hi (by omega) hdx
          have hfit : i * s.size + off + ws.length ≤ cur.size := by omega
          refine ⟨b, i * s.size + off, cur, ty, rfl, hh, hfit, key _ b cp cur ty _ ho hm hh hnoS hB ⟨m, ver, _, by rw [hver.1], rfl, by omega, fun _ => hver.1, fun _ => ⟨rfl, by simp⟩⟩ fun look' hx' hk => ?_⟩
          refine ⟨hpos, ?_⟩
          rw [hm]
          refine ⟨hB, _, ty, setRow_heap w b cur _ ty _ hh, ?_, by simpa using hlen, hmx, fun q e => by rw [List.length_set]; exact hf q e, fun k y hy => ?_, fun off hs => (hnoS off hs).elim, fun e => (hver.2 e).elim⟩
          · simp [spliceV_length (show i * s.size + off + ws.length ≤ cur.toList.length by simpa using hfit)]
            exact hsz
          · obtain ⟨us, hd, hu⟩ := hset.get k y hy
            refine ⟨us, DR.mono hk hd, fun j u huj => ?_⟩
            have h5 := hu j u huj
            rw [spliceV_get _ _ _ (by simp [List.length_take]; omega)] at h5
            simp only [List.getElem?_toArray]
            rw [spliceV_get _ _ _ (by simpa using hfit)]
            split
            · rename_i h6; rw [if_pos h6] at h5; exact h5
            · rename_i h6
              rw [if_neg h6, List.getElem?_take] at h5
              split at h5
              · exact h5
              · simp at h5
        · simp at hw
      · simp at hw
    · simp at hw
  case pix o base s m i off =>
    obtain ⟨hi, ⟨ob, ho, hst⟩, b, cp, hm, rfl⟩ := hv
    rw [ho] at hw
    cases ob with
    | arr _ _ _ _ => simp at hw
    | map _ _ _ _ _ _ => simp at hw
    | it _ _ _ _ _ _ => simp at hw
    | cells fz l =>
      cases fz with
      | true => simp at hw
      | false =>
        simp only at hw
        split at hw
        · rename_i hcond
          split at hw
          · rename_i xs hxs
            split at hw
            · rename_i x hx
              simp at hw
              obtain ⟨rfl, rfl, rfl⟩ := hw
              obtain ⟨b', c', cur, ty, hm', hB, hh, ha, hS⟩ := h.obj o _ ho
              rw [hm] at hm'
              simp at hm'
              obtain ⟨rfl, rfl⟩ := hm'
              have hl := ha.length
              have hl2 := hvs.length
              obtain ⟨hxl, hdn⟩ := decN_rel ((ha.drop base).take (m * s.size)) hxs
              have hdi := hdn.2 i _ (getD_of_lt (by omega) s.dflt)
              have hel := (enc_rel (look := lks σ) hdi)
              have hell := hel.length
              have hdl := hdi.length
              have hsp := hel.splice (purs_rel h.obj hvs) off (by rw [List.length_map, hell, hdl]; exact hcond.1)
              have hdx := dec_all hsp hx
              have hset := hdn.set (ws := ws) (by omega) (by omega) hdx
              have hlt : i * s.size + s.size ≤ m * s.size := by
                have : (i + 1) * s.size ≤ m * s.size := Nat.mul_le_mul_right _ hi
                rwa [Nat.add_mul, Nat.one_mul] at this
              have hcl : cur.toList.length = l.length := hl.symm
              have hfit : base + i * s.size + off + ws.length ≤ cur.size := by simp at hcl; omega
              have hseg : ((cur.toList.drop base).take (m * s.size)).length = m * s.size := by simp [List.length_take, List.length_drop]; simp at hcl; omega
              have heq : spliceV cur.toList (base + i * s.size + off) ws = spliceV cur.toList base (spliceV ((cur.toList.drop base).take (m * s.size)) (i * s.size + off) ws) := by
                apply List.ext_getElem?
                intro j
                have h7 : (spliceV ((cur.toList.drop base).take (m * s.size)) (i * s.size + off) ws).length = m * s.size := by rw [spliceV_length (by omega), hseg]
                rw [spliceV_get _ _ _ (by simpa using hfit), spliceV_get _ _ _ (by rw [h7]; simp; simp at hcl; omega), h7]
                by_cases h8 : base ≤ j ∧ j < base + m * s.size
                · rw [if_pos h8, spliceV_get _ _ _ (by omega)]
                  by_cases h9 : base + i * s.size + off ≤ j ∧ j < base + i * s.size + off + ws.length
                  · rw [if_pos h9, if_pos (by omega)]
                    congr 1; omega
                  · rw [if_neg h9, if_neg (by omega), List.getElem?_take, if_pos (by omega), List.getElem?_drop]
                    congr 1; omega
                · rw [if_neg h8, if_neg (by omega)]
              refine ⟨b, base + i * s.size + off, cur, ty, rfl, hh, hfit, key _ b cp cur ty _ ho hm hh (hS rfl) hB ⟨rfl, _, _, rfl⟩ fun look' hx' hk => ?_⟩
              refine ⟨b, cp, _, ty, hm, hB, setRow_heap w b cur _ ty _ hh, ?_, fun _ => hS rfl⟩
              have hset' : DRN G.S (w.setRow b (spliceV cur.toList (base + i * s.size + off) ws).toArray) s (setL x i xs 0) (spliceV ((cur.toList.drop base).take (m * s.size)) (i * s.size + off) ws) := by
                rw [setL_eq]
                simp only [Nat.zero_le, if_true, Nat.sub_zero]
                exact ⟨hset.1, fun k y hy => DR.mono hk (hset.2 k y hy)⟩
              have h9 := encL_rel (look := look') hset'
              have h10 := (ha.imp fun _ _ hc => CR.ext hx' hc).splice h9 base (by rw [h9.length, hset.1]; simp [hxl]; omega)
              simp only []
              rw [heq] at *
              exact h10
            · simp at hw
          · simp at hw
        · simp at hw
end
end Go.Pi
end

section
namespace Go.Pi
open Go.RowKit
set_option linter.unusedSimpArgs false
set_option linter.unusedVariables false

section
variable {P : Program} {B : Nat → Prop} {w0 : World} {S0 : Cells} {G : Gh} {outs : Outs} {σ : St} {a : Act} {w : World} {o : Oper}

theorem okT_parts {t : TypeId} (h : okT P t = true) : (P.underlying t).isSome = true ∧ (isAggT P t = false → szOf P t = 1) ∧ (P.info? t).isSome = true := by
  simp only [okT, Bool.and_eq_true, Bool.or_eq_true, beq_iff_eq] at h
  refine ⟨h.1, fun e => by rcases h.2 with h2 | h2 <;> simp_all, ?_⟩
  cases hu : P.underlying t with
  | none => simp [hu] at h
  | some d => exact info_of_under hu

theorem op_load (h : Rel B w0 S0 G outs σ a w) {t : TypeId} {x : Operand} (ho : o.op = .load t x) {c : Bool} {cs : List AV} (hr : readPtr (lks σ) (szOf P t) (ev σ.tm x) = some (c, cs)) (hok : okT P t = true)
    {e : Eff} (he : chk1 c (wrapAgg (isAggT P t) cs) = some e) (hc : e.chk = true) : OpOK P B w0 S0 outs σ a w o e := by
  rw [chk1_eq he] at hc ⊢
  obtain ⟨b, off, vs, hv, hn, hcs, hC⟩ := read_rel h.obj (ev_rel h x) hr hc
  obtain ⟨h1, h2, h3⟩ := okT_parts hok
  refine OpOK.of_value h (v := if isAggT P t then .agg vs.toArray else vs.headD Go.undef) (wrapAgg_rel ?_ hcs) (.inl ?_)
  · cases hag : isAggT P t with
    | true => exact .inr rfl
    | false => exact .inl (by rw [hcs.length, hn]; exact h2 hag)
  · unfold execOp
    simp only [ho, hv, Instr.loadAt, Instr.sureAddr, Sem.run_bind, Sem.run_pure, Result.andThen_ok, loadVar_run h1 hn h2 hC]

theorem op_store (h : Rel B w0 S0 G outs σ a w) {t : TypeId} {x y : Operand} (ho : o.op = .store t x y) {vs : List AV} (hk : (ev σ.tm y).known = some vs) (hsz : vs.length = szOf P t) (hok : okT P t = true)
    {u : Bool × Nat × Ob} (hw : writePtr (lks σ) vs (ev σ.tm x) = some u) (hc : u.1 = true) : OpOK P B w0 S0 outs σ a w o ⟨u.1, true, none, .skip, [u.2]⟩ := by
  obtain ⟨c, p, ob'⟩ := u
  have hvs := known_rel (ev_rel h y) hk
  obtain ⟨b, off, cur, ty, hv, hb, hfit, hR⟩ := write_rel h hvs (ev_rel h x) hw hc σ.dt (p :: σ.dob)
  obtain ⟨h1, h2, h3⟩ := okT_parts hok
  have hn : (a.eval y).cells.size = szOf P t := by have := hvs.length; rw [← hsz, this]; simp
  refine .inl ⟨Go.undef, _, G, .inr ⟨?_, rfl⟩, hR.put o.dst (av := .skip) rfl, rfl⟩
  unfold execOp
  have hl : ∀ u ∈ (a.eval y).cells.toList, Leaf u := fun u hu => by
    obtain ⟨i, hi⟩ := List.getElem?_of_mem hu
    obtain ⟨_, _, hcr⟩ := hvs.get' i u hi
    exact hcr.2
  simp only [ho, hv, Instr.storeAt, Instr.sureAddr, Sem.run_bind, Sem.run_pure, Result.andThen_ok, storeVar_run hb h3 hn hl (by simpa using hfit)]

/-! ### new variables -/
theorem heap_new (w : World) (o : Obj) : (w.alloc o).heap[w.heap.size]? = some o := by
  show (w.heap.push o)[w.heap.size]? = some o
  simp

theorem cellsOb_rel {site : Nat} {cs : List AV} {vs : Array Value} {ty : TypeId} {cap : Nat} (h : Rel B w0 S0 G outs σ a w) (ha : All2 (CR G w (lks σ)) cs vs.toList) (look' : Look)
    (hx : Ext G w (lks σ) { G with M := fun p => if p = site then some (w.heap.size, cap) else G.M p } (w.alloc (.cells vs ty)) look') :
    ObR B { G with M := fun p => if p = site then some (w.heap.size, cap) else G.M p } (w.alloc (.cells vs ty)) look' site (.cells false cs) := by
  refine ⟨w.heap.size, cap, vs, ty, by simp, h.fresh, heap_new w _, ha.imp fun _ _ hc => CR.ext hx hc, fun _ off hs => ?_⟩
  have := h.slt _ _ hs
  omega

theorem arrOb_rel {site ver : Nat} {m : Mode} {s : Sch} {xs : List s.D} {vs : Array Value} {ty : TypeId} {cap : Nat} (h : Rel B w0 S0 G outs σ a w) (hpos : 0 < s.size) (hm : m ≠ .grow) (hsz : vs.size = cap * s.size) (hle : xs.length ≤ cap) (hmx : m.fix = none → cap ≤ 9223372036854775807) (hfix : ∀ k, m.fix = some k → cap = k ∧ xs.length = k)
    (hd : ∀ (i : Nat) (x : s.D), xs[i]? = some x → ∃ ws, DR G.S w s x ws ∧ ∀ (j : Nat) (v : Value), ws[j]? = some v → vs[i * s.size + j]? = some v) (look' : Look)
    (hx : Ext G w (lks σ) { G with M := fun p => if p = site then some (w.heap.size, cap) else G.M p } (w.alloc (.cells vs ty)) look') :
    ObR B { G with M := fun p => if p = site then some (w.heap.size, cap) else G.M p } (w.alloc (.cells vs ty)) look' site (.arr m ver s xs) := by
  refine ⟨hpos, ?_⟩
  simp only [if_pos]
  refine ⟨h.fresh, vs, ty, heap_new w _, hsz, hle, hmx, hfix, fun i x hxi => ?_, fun off hs => ?_, fun e => (hm e).elim⟩
  · obtain ⟨ws, hd1, hd2⟩ := hd i x hxi
    exact ⟨ws, DR.mono hx.keeps hd1, hd2⟩
  · have := h.slt _ _ hs
    omega

/-- A new variable in memory. -/
theorem new_rel (h : Rel B w0 S0 G outs σ a w) {site : Nat} (hs : lk site σ.sto = none) {t : TypeId} {v : Value} {cs : List AV} (ha : All2 (CR G w (lks σ)) cs v.cells.toList) {ob : Ob}
    (hob : ob = .cells false cs ∨ ∃ (s : Sch) (m : Nat) (xs : List s.D), 0 < s.size ∧ decN s m (cs.map (pur (lks σ))) = some xs ∧ ob = .arr (.fixed m) 0 s xs)
    (hd : Done P o a w (.pointer (some ⟨w.heap.size, 0, none⟩)) (w.alloc (.cells v.cells t))) : OpOK P B w0 S0 outs σ a w o ⟨true, true, none, .ptr site 0, [(site, ob)]⟩ := by
  rcases hob with rfl | ⟨s, m, xs, hpos, hx, rfl⟩
  · have hR := h.newOb hs (.cells false cs) v.cells t 0 σ.dt (site :: σ.dob) (fun look' hx => cellsOb_rel h ha look' hx)
    refine .inl ⟨_, _, _, hd, hR.put o.dst (av := .ptr site 0) ?_, rfl⟩
    exact ⟨⟨.cells false cs, by simp [lks, lk_ups], trivial⟩, w.heap.size, 0, by simp, rfl⟩
  · obtain ⟨hxl, hdn⟩ := decN_rel (purs_rel h.obj ha) hx
    have hsz : v.cells.size = xs.length * s.size := by have := hdn.1; simpa using this
    have hR := h.newOb hs (.arr (.fixed m) 0 s xs) v.cells t xs.length σ.dt (site :: σ.dob)
      (fun look' hx => arrOb_rel h hpos (by simp) hsz (Nat.le_refl _) (fun e => by simp [Mode.fix] at e) (fun k hk => by simp [Mode.fix] at hk; omega) (fun i x hxi => by
        obtain ⟨ws, h1, h2⟩ := hdn.get i x hxi
        exact ⟨ws, h1, fun j u hu => by simpa using h2 j u hu⟩) look' hx)
    refine .inl ⟨_, _, _, hd, hR.put o.dst (av := .ptr site 0) ?_, rfl⟩
    exact ⟨⟨.arr (.fixed m) 0 s xs, by simp [lks, lk_ups], by simp [Ob.still, Mode.fix]⟩, w.heap.size, xs.length, by simp, rfl⟩

theorem map_pur_zero {cs : List AV} {look : Look} {l : List Value} (h : ofVs l = some cs) : cs.map (pur look) = cs := by
  induction l generalizing cs with
  | nil => simp [ofVs] at h; subst h; rfl
  | cons v r ih =>
    simp only [ofVs] at h
    split at h
    · rename_i x l' hx hl
      simp at h; subst h
      simp only [List.map_cons, ih hl]
      congr 1
      unfold ofV0 at hx
      split at hx <;> simp at hx <;> subst hx <;> rfl
    · simp at h

theorem zeroCs_pur {t : TypeId} {cs : List AV} (h : zeroCs P t = some cs) (look : Look) : cs.map (pur look) = cs := by
  unfold zeroCs at h
  split at h
  · split at h
    · exact map_pur_zero h
    · rename_i v hva hz
      split at h
      · rename_i av hv
        simp at h; subst h
        exact map_pur_zero (l := [v]) (by simp only [ofVs, hv])
      · simp at h
    · simp at h
  · simp at h

theorem op_alloc (h : Rel B w0 S0 G outs σ a w) {t : TypeId} {site : Nat} (ho : o.op = .alloc t) (hs : lk site σ.sto = none) {zs : List AV} (hz : zeroCs P t = some zs) {ob : Ob}
    (hob : ob = .cells false zs ∨ ∃ (s : Sch) (m : Nat) (xs : List s.D), 0 < s.size ∧ decN s m zs = some xs ∧ ob = .arr (.fixed m) 0 s xs) : OpOK P B w0 S0 outs σ a w o ⟨true, true, none, .ptr site 0, [(site, ob)]⟩ := by
  obtain ⟨v, hzr, ha⟩ := zero_run hz
  refine new_rel h hs (t := t) (v := v) (cs := zs) (ha G w _) ?_ (.inl ?_)
  · rw [zeroCs_pur hz]; exact hob
  · unfold execOp
    simp [ho, Instr.alloc, hzr, newVar, newRow]

theorem op_box (h : Rel B w0 S0 G outs σ a w) {t : TypeId} {x : Operand} {site : Nat} (ho : o.op = .box t x) (hs : lk site σ.sto = none) {vs : List AV} (hz : (ev σ.tm x).known = some vs) {ob : Ob}
    (hob : ob = .cells false vs ∨ ∃ (s : Sch) (m : Nat) (xs : List s.D), 0 < s.size ∧ decN s m (vs.map (pur (lks σ))) = some xs ∧ ob = .arr (.fixed m) 0 s xs) : OpOK P B w0 S0 outs σ a w o ⟨true, true, none, .ptr site 0, [(site, ob)]⟩ := by
  refine new_rel h hs (t := t) (v := a.eval x) (cs := vs) (known_rel (ev_rel h x) hz) hob (.inl ?_)
  unfold execOp
  simp [ho, Instr.box, newVar, newRow]

/-! ### addresses -/
theorem addr_add (b off n : Nat) : (⟨b, off, none⟩ : Addr).add n = ⟨b, off + n, none⟩ := by unfold Addr.add; split <;> simp_all

theorem ptrAdd_rel {look : Look} {av : AV} {v : Value} {b off : Nat} (n : Nat) (hv : VR G w look av v) (he : v = .pointer (some ⟨b, off, none⟩)) : VR G w look (ptrAdd n av) (.pointer (some ⟨b, off + n, none⟩)) := by
  subst he
  cases av <;> simp only [ptrAdd] <;> try (simp only [VR, VR1, VR0]; done)
  case ptr o off' =>
    obtain ⟨h1, b', c, hm, e⟩ := hv
    simp at e
    obtain ⟨rfl, rfl⟩ := e
    exact ⟨h1, b, c, hm, rfl⟩
  case ptre o ver i off' =>
    obtain ⟨hl, m, ver', s, xs, ho, hle, hr⟩ := hv
    refine ⟨trivial, m, ver', s, xs, ho, hle, fun e => ?_⟩
    obtain ⟨hi, b', c, hm, e2⟩ := hr e
    simp at e2
    obtain ⟨rfl, rfl⟩ := e2
    exact ⟨hi, b, c, hm, by simp [Nat.add_assoc]⟩
  case pel s xs i off' =>
    obtain ⟨hi, b', o0, he, e⟩ := hv
    simp at e
    obtain ⟨rfl, rfl⟩ := e
    exact ⟨hi, b, o0, he, by simp [Nat.add_assoc]⟩
  case pix o base s m i off' =>
    obtain ⟨hi, h1, b', c, hm, e⟩ := hv
    simp at e
    obtain ⟨rfl, rfl⟩ := e
    exact ⟨hi, h1, b, c, hm, by simp [Nat.add_assoc]⟩

theorem ptrOk_rel {look : Look} {av : AV} {v : Value} (hv : VR G w look av v) (hp : ptrOk look av = true) : ∃ b off, v = .pointer (some ⟨b, off, none⟩) := by
  cases av <;> simp only [ptrOk] at hp <;> try (simp at hp; done)
  case ptr o off => obtain ⟨_, b, c, _, e⟩ := hv; exact ⟨b, off, e⟩
  case pel s xs i off => obtain ⟨_, b, o0, _, e⟩ := hv; exact ⟨b, _, e⟩
  case pix o base s m i off => obtain ⟨_, _, b, c, _, e⟩ := hv; exact ⟨b, _, e⟩
  case ptre o ver i off =>
    obtain ⟨_, m, ver', s, xs, ho, _, hr⟩ := hv
    rw [ho] at hp
    simp at hp
    obtain ⟨_, b, c, _, e⟩ := hr hp
    exact ⟨b, _, e⟩

theorem op_fieldAddr (h : Rel B w0 S0 G outs σ a w) {t : TypeId} {x : Operand} {f : Nat} (ho : o.op = .fieldAddr t x f) {fs : Array Field} (hu : P.underlying t = some (.struct fs)) {fd : Field} (hf : fs[f]? = some fd)
    (hn : szOf P fd.type ≠ 0) (hi : (P.info? fd.type).isSome = true) (hp : ptrOk (lks σ) (ev σ.tm x) = true) {e : Eff} (he : one (ptrAdd fd.offset (ev σ.tm x)) = some e) : OpOK P B w0 S0 outs σ a w o e := by
  rw [one_eq he]
  obtain ⟨b, off, hv⟩ := ptrOk_rel (ev_rel h x) hp
  refine OpOK.of_value h (ptrAdd_rel fd.offset (ev_rel h x) hv) (.inl ?_)
  unfold execOp
  simp only [ho, Instr.fieldAt, Sem.run_bind, run_underlying hu w, Result.andThen_ok, hf, hv, Instr.sureAddr, Sem.run_pure, fieldPlace, size_run hi w, Sem.run_ite, if_neg hn, addr_add]

theorem indexAt_run {t e : TypeId} {v : Value} {n : Int} {k : IntKind} {b off m : Nat} (hm : (∃ mm, P.underlying t = some (.array mm e) ∧ m = mm ∧ v = .pointer (some ⟨b, off, none⟩)) ∨ (P.underlying t = some (.slice e) ∧ ∃ cap, v = .slice (some ⟨b, off, none⟩) m cap))
    (h0 : 0 ≤ n) (h1 : n < m) (hi : (P.info? e).isSome = true) : (Instr.indexAt t v (.int k n)).run P w = .ok (.pointer (some ⟨b, off + n.toNat * szOf P e, none⟩)) w := by
  unfold Instr.indexAt
  rcases hm with ⟨mm, hu, rfl, rfl⟩ | ⟨hu, cap, rfl⟩
  · simp only [asIntOf, Sem.run_bind, Sem.run_pure, Result.andThen_ok, run_underlying hu w, Instr.sureAddr]
    simp only [h0, h1, and_self, if_true, Sem.run_bind, size_run hi w, Result.andThen_ok, Sem.run_pure, addr_add]
  · simp only [asIntOf, Sem.run_bind, Sem.run_pure, Result.andThen_ok, run_underlying hu w, Instr.sureAddr]
    simp only [h0, h1, and_self, if_true, Sem.run_bind, size_run hi w, Result.andThen_ok, Sem.run_pure, addr_add]

/-- The places of elements. -/
theorem op_indexAddr (h : Rel B w0 S0 G outs σ a w) {t e : TypeId} {x i : Operand} (ho : o.op = .indexAddr t x i) {k : IntKind} {n : Int} (hi : ev σ.tm i = .int k n) (h0 : 0 ≤ n) (hinf : (P.info? e).isSome = true) {av : AV}
    (hcase :
      (∃ m ob ver s xs, P.underlying t = some (.array m e) ∧ ev σ.tm x = .ptr ob 0 ∧ lk ob σ.sto = some (.arr (.fixed m) ver s xs) ∧ s.size = szOf P e ∧ n < m ∧ av = .ptre ob ver n.toNat 0) ∨
      (∃ m ob off fz cs, P.underlying t = some (.array m e) ∧ ev σ.tm x = .ptr ob off ∧ lk ob σ.sto = some (.cells fz cs) ∧ (sch P e).size = szOf P e ∧ n < m ∧ av = .pix ob off (sch P e) m n.toNat 0) ∨
      (∃ ex s xs, P.underlying t = some (.slice e) ∧ ev σ.tm x = .sl ex s xs ∧ s.size = szOf P e ∧ n < xs.length ∧ av = .pel s xs n.toNat 0) ∨
      (∃ ob ver m s xs, P.underlying t = some (.slice e) ∧ ev σ.tm x = .ref ob ver ∧ lk ob σ.sto = some (.arr m ver s xs) ∧ s.size = szOf P e ∧ n < xs.length ∧ av = .ptre ob ver n.toNat 0)) :
    ∃ v, Done P o a w v w ∧ VR G w (lks σ) av v := by
  have hiv : a.eval i = .int k n := by have := ev_rel h i; rw [hi] at this; exact this
  have hx := ev_rel h x
  have fin : ∀ {b off m : Nat}, ((∃ mm, P.underlying t = some (.array mm e) ∧ m = mm ∧ a.eval x = .pointer (some ⟨b, off, none⟩)) ∨ (P.underlying t = some (.slice e) ∧ ∃ cap, a.eval x = .slice (some ⟨b, off, none⟩) m cap)) → n < m →
      Done P o a w (.pointer (some ⟨b, off + n.toNat * szOf P e, none⟩)) w := by
    intro b off m hm h1
    refine .inl ?_
    unfold execOp
    simp only [ho, hiv, Sem.run_bind, indexAt_run hm h0 h1 hinf, Result.andThen_ok, Sem.run_pure]
  rcases hcase with ⟨m, ob, ver, s, xs, hu, he, hl, hs, h1, rfl⟩ | ⟨m, ob, off, fz, cs, hu, he, hl, hs, h1, rfl⟩ | ⟨ex, s, xs, hu, he, hs, h1, rfl⟩ | ⟨ob, ver, m, s, xs, hu, he, hl, hs, h1, rfl⟩
  · rw [he] at hx
    obtain ⟨_, b, c, hm, hv⟩ := hx
    have hA := (h.obj ob _ hl).2
    rw [hm] at hA
    obtain ⟨_, _, _, _, _, _, _, hf, _⟩ := hA
    have hf2 := (hf m rfl).2
    refine ⟨_, fin (.inl ⟨m, hu, rfl, hv⟩) h1, trivial, .fixed m, ver, s, xs, hl, Nat.le_refl _, fun _ => ⟨by omega, b, c, hm, ?_⟩⟩
    rw [hs]; simp
  · rw [he] at hx
    obtain ⟨hst, b, c, hm, hv⟩ := hx
    refine ⟨_, fin (.inl ⟨m, hu, rfl, hv⟩) h1, by omega, hst, b, c, hm, ?_⟩
    rw [hs]; simp
  · rw [he] at hx
    obtain ⟨⟨ad, cap, hv, hle, _, hel⟩, _⟩ := hx
    simp at hv
    obtain ⟨b, off, rfl, hE⟩ := hel (by omega)
    refine ⟨_, fin (.inr ⟨hu, cap, hv⟩) h1, by omega, b, off, hE, ?_⟩
    rw [hs]; simp
  · rw [he] at hx
    obtain ⟨hlf, m', ver', s', xs', hl', hnf, hle, hr⟩ := hx
    have hl2 : lk ob σ.sto = some (.arr m' ver' s' xs') := hl'
    rw [hl] at hl2
    simp only [Option.some.injEq, Ob.arr.injEq] at hl2
    obtain ⟨rfl, rfl, rfl, e2⟩ := hl2
    have e3 := eq_of_heq e2
    subst e3
    have hv := hr rfl
    have hA := (h.obj ob _ hl).2
    cases hM : G.M ob with
    | none => rw [hM] at hA; have := hA.1; subst this; simp at h1; omega
    | some q =>
      obtain ⟨b, cap⟩ := q
      rw [hM] at hv
      refine ⟨_, fin (.inr ⟨hu, cap, hv⟩) h1, trivial, m, ver, s, xs, hl, Nat.le_refl _, fun _ => ⟨by omega, b, cap, hM, ?_⟩⟩
      rw [hs]; simp

theorem op_indexAddr2 (h : Rel B w0 S0 G outs σ a w) {t e : TypeId} {x i : Operand} (ho : o.op = .indexAddr t x i) {k : IntKind} {n : Int} (hi : ev σ.tm i = .int k n) (h0 : 0 ≤ n) (hinf : (P.info? e).isSome = true) {av : AV} {m : Nat} (hu : P.underlying t = some (.array m e)) (h1 : n < m)
    (hcase : (∃ s xs j off, ev σ.tm x = .pel s xs j off ∧ av = .pel s xs j (off + n.toNat * szOf P e)) ∨ (∃ ob base s m' j off, ev σ.tm x = .pix ob base s m' j off ∧ av = .pix ob base s m' j (off + n.toNat * szOf P e)) ∨
      (∃ ob ver j off, ev σ.tm x = .ptre ob ver j off ∧ ptrOk (lks σ) (.ptre ob ver j off) = true ∧ av = .ptre ob ver j (off + n.toNat * szOf P e))) :
    ∃ v, Done P o a w v w ∧ VR G w (lks σ) av v := by
  have hiv : a.eval i = .int k n := by have := ev_rel h i; rw [hi] at this; exact this
  have hx := ev_rel h x
  have fin : ∀ {b off : Nat}, a.eval x = .pointer (some ⟨b, off, none⟩) → Done P o a w (.pointer (some ⟨b, off + n.toNat * szOf P e, none⟩)) w := by
    intro b off hm
    refine .inl ?_
    unfold execOp
    simp only [ho, hiv, Sem.run_bind, indexAt_run (.inl ⟨m, hu, rfl, hm⟩) h0 h1 hinf, Result.andThen_ok, Sem.run_pure]
  rcases hcase with ⟨s, xs, j, off, he, rfl⟩ | ⟨ob, base, s, m', j, off, he, rfl⟩ | ⟨ob, ver, j, off, he, hp, rfl⟩
  · rw [he] at hx
    obtain ⟨hj, b, o0, hel, hv⟩ := hx
    exact ⟨_, fin hv, hj, b, o0, hel, by rw [Nat.add_assoc]⟩
  · rw [he] at hx
    obtain ⟨hj, hst, b, c, hm, hv⟩ := hx
    exact ⟨_, fin hv, hj, hst, b, c, hm, by rw [Nat.add_assoc]⟩
  · rw [he] at hx
    obtain ⟨b, off', hv⟩ := ptrOk_rel hx hp
    exact ⟨_, fin hv, ptrAdd_rel (n.toNat * szOf P e) hx hv⟩

end
end Go.Pi
end
