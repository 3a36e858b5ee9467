/- A symbolic executor for the model and its soundness, first part. -/
import Derived.Orders
import Derived.Deep.MidRow
import Derived.Below
import Derived.Laws.AppendOwn
import Derived.Deep.AppendSrc
import Derived.Laws.OwnMore
import Derived.Deep.Upon
import Derived.Laws.Tables
import Derived.Deep.AppendLies
import Derived.Laws.MakeOwn
import Derived.Laws.AppendOwnNone
/-
  A symbolic executor for straight pieces of the model's code: abstract values, abstract memory, one step an operation, and the proof that a region's order does not matter where its steps touch different places. No program in sight.
-/
namespace Go.Sx

/-- A cell's value: a literal, a variable of the valuation, a cell of a variable, an address, a slice. -/
inductive A1 where
  | lit (v : Value)
  | var (n : Nat)
  | part (n i sz : Nat)
  | ptr (k off : Nat)
  | ptrx (k n sc : Nat)
  | sl (k : Nat)
  deriving Inhabited

inductive AT where
  | one (a : A1)
  | agg (l : List A1)
  deriving Inhabited

inductive AV where
  | at (x : AT)
  | tup (l : List AT)
  deriving Inhabited

/-- What lies in a row: cells one by one; the cells of a variable; slices, each of a component of a variable. -/
inductive RC where
  | lst (l : List A1)
  | all (n : Nat)
  | nest (n : Nat)
  deriving Inhabited

structure Row where
  c : RC
  es : Nat
  ap : Option Nat
  deriving Inhabited

/-- Where a ghost row lies. -/
structure GV where
  blk : Nat
  off : Nat
  len : Nat
  cap : Nat
  nil : Bool
  deriving Inhabited

def vc (v : Value) (i : Nat) : Value := v.cells.getD i undef
def toN : Value → Nat | .int _ i => i.toNat | _ => 0
def GV.slv (g : GV) : Value := if g.nil then .slice none 0 0 else .slice (some ⟨g.blk, g.off, none⟩) g.len g.cap

section
variable (σ : Nat → GV) (ρ : Nat → Value)

def A1.conc : A1 → Value
  | .lit v => v
  | .var n => ρ n
  | .part n i _ => vc (ρ n) i
  | .ptr k o => .pointer (some ⟨(σ k).blk, (σ k).off + o, none⟩)
  | .ptrx k n sc => .pointer (some ⟨(σ k).blk, (σ k).off + toN (ρ n) * sc, none⟩)
  | .sl k => (σ k).slv

def AT.conc : AT → Value
  | .one a => a.conc σ ρ
  | .agg l => .agg (l.map (A1.conc σ ρ)).toArray

def AV.conc : AV → Value
  | .at x => x.conc σ ρ
  | .tup l => .tuple (l.map (AT.conc σ ρ)).toArray

def A1.den : A1 → Value
  | .lit v => v
  | .var n => ρ n
  | .part n i _ => vc (ρ n) i
  | _ => undef

def AT.den : AT → Value
  | .one a => a.den ρ
  | .agg l => .agg (l.map (A1.den ρ)).toArray

def AV.den : AV → Value
  | .at x => x.den ρ
  | .tup l => .tuple (l.map (AT.den ρ)).toArray
end

def A1.pure : A1 → Bool
  | .lit _ | .var _ | .part .. => true
  | _ => false
def AT.pure : AT → Bool
  | .one a => a.pure
  | .agg l => l.all A1.pure
def AV.pure : AV → Bool
  | .at x => x.pure
  | .tup l => l.all AT.pure

theorem A1.conc_pure {a : A1} (h : a.pure = true) (σ ρ) : a.conc σ ρ = a.den ρ := by
  cases a <;> simp_all [A1.pure, A1.conc, A1.den]
theorem map_conc_pure {l : List A1} (h : l.all A1.pure = true) (σ ρ) : l.map (A1.conc σ ρ) = l.map (A1.den ρ) :=
  List.map_congr_left fun a ha => A1.conc_pure (List.all_eq_true.1 h a ha) σ ρ
theorem AT.conc_pure {a : AT} (h : a.pure = true) (σ ρ) : a.conc σ ρ = a.den ρ := by
  cases a with
  | one a => exact A1.conc_pure h σ ρ
  | agg l => simp only [AT.conc, AT.den, map_conc_pure h σ ρ]
theorem AV.conc_pure {a : AV} (h : a.pure = true) (σ ρ) : a.conc σ ρ = a.den ρ := by
  cases a with
  | «at» a => exact AT.conc_pure h σ ρ
  | tup l =>
    simp only [AV.conc, AV.den]
    rw [List.map_congr_left fun a ha => AT.conc_pure (List.all_eq_true.1 h a ha) σ ρ]

/-- the ghost rows that a value names -/
def A1.gh : A1 → List Nat
  | .ptr k _ | .ptrx k _ _ | .sl k => [k]
  | _ => []
def AT.gh : AT → List Nat
  | .one a => a.gh
  | .agg l => l.flatMap A1.gh
def AV.gh : AV → List Nat
  | .at a => a.gh
  | .tup l => l.flatMap AT.gh
def RC.gh : RC → List Nat
  | .lst l => l.flatMap A1.gh
  | _ => []

theorem A1.conc_congr {a : A1} {σ σ' : Nat → GV} {ρ} (h : ∀ k ∈ a.gh, σ' k = σ k) : a.conc σ' ρ = a.conc σ ρ := by
  cases a <;> simp_all [A1.conc, A1.gh]
theorem map_conc_congr {l : List A1} {σ σ' : Nat → GV} {ρ} (h : ∀ k ∈ l.flatMap A1.gh, σ' k = σ k) : l.map (A1.conc σ' ρ) = l.map (A1.conc σ ρ) :=
  List.map_congr_left fun a ha => A1.conc_congr fun k hk => h k (List.mem_flatMap.2 ⟨a, ha, hk⟩)
theorem AT.conc_congr {a : AT} {σ σ' : Nat → GV} {ρ} (h : ∀ k ∈ a.gh, σ' k = σ k) : a.conc σ' ρ = a.conc σ ρ := by
  cases a with
  | one a => exact A1.conc_congr h
  | agg l => simp only [AT.conc, map_conc_congr h]
theorem AV.conc_congr {a : AV} {σ σ' : Nat → GV} {ρ} (h : ∀ k ∈ a.gh, σ' k = σ k) : a.conc σ' ρ = a.conc σ ρ := by
  cases a with
  | «at» a => exact AT.conc_congr h
  | tup l =>
    simp only [AV.conc]
    rw [List.map_congr_left fun a ha => AT.conc_congr fun k hk => h k (List.mem_flatMap.2 ⟨a, ha, hk⟩)]

/-- a list of pairs, looked up -/
def lk {α : Type} : List (Nat × α) → Nat → Option α
  | [], _ => none
  | (k, v) :: r, t => if k = t then some v else lk r t

structure St where
  sl : List (Nat × AV)
  rw : List (Nat × Option Row)
  wr : List (Nat × Bool)
  deriving Inhabited

def St.slot (S : St) (t : Nat) : Option AV := lk S.sl t
def St.row (S : St) (k : Nat) : Option Row := (lk S.rw k).join
def St.own (S : St) (k : Nat) : Bool := (lk S.wr k).getD false

theorem lk_append {α : Type} (l r : List (Nat × α)) (t : Nat) : lk (l ++ r) t = (lk l t).or (lk r t) := by
  induction l with
  | nil => simp [lk]
  | cons x l ih =>
    obtain ⟨k, v⟩ := x
    simp only [List.cons_append, lk]
    split
    · simp
    · exact ih

theorem lk_none {α : Type} {l : List (Nat × α)} {t : Nat} (h : t ∉ l.map (·.1)) : lk l t = none := by
  induction l with
  | nil => rfl
  | cons x l ih =>
    obtain ⟨k, v⟩ := x
    simp only [List.map_cons, List.mem_cons, not_or] at h
    simp only [lk]
    rw [if_neg (fun e => h.1 e.symm), ih h.2]

theorem lk_some_mem {α : Type} {l : List (Nat × α)} {t : Nat} {v : α} (h : lk l t = some v) : (t, v) ∈ l := by
  induction l with
  | nil => cases h
  | cons x l ih =>
    obtain ⟨k, u⟩ := x
    simp only [lk] at h
    split at h
    · rename_i e; subst e; cases h; simp
    · exact List.mem_cons_of_mem _ (ih h)

inductive Loc where
  | s (t : Nat)
  | r (k : Nat)
  | w (k : Nat)
  deriving DecidableEq

/-- what is asked of the state, step by step -/
inductive Rd (α : Type) : Type where
  | ret (a : α)
  | fail
  | slot (t : Nat) (k : Option AV → Rd α)
  | row (t : Nat) (k : Option Row → Rd α)
  | own (t : Nat) (k : Bool → Rd α)

def Rd.bind {α β : Type} : Rd α → (α → Rd β) → Rd β
  | .ret a, f => f a
  | .fail, _ => .fail
  | .slot t k, f => .slot t fun x => (k x).bind f
  | .row t k, f => .row t fun x => (k x).bind f
  | .own t k, f => .own t fun x => (k x).bind f
instance : Monad Rd where
  pure := Rd.ret
  bind := Rd.bind

def Rd.val (S : St) {α : Type} : Rd α → Option α
  | .ret a => some a
  | .fail => none
  | .slot t k => (k (S.slot t)).val S
  | .row t k => (k (S.row t)).val S
  | .own t k => (k (S.own t)).val S

def Rd.reads (S : St) {α : Type} : Rd α → List Loc
  | .ret _ => []
  | .fail => []
  | .slot t k => .s t :: (k (S.slot t)).reads S
  | .row t k => .r t :: (k (S.row t)).reads S
  | .own t k => .w t :: (k (S.own t)).reads S

def St.agree (S S' : St) : Loc → Prop
  | .s t => S'.slot t = S.slot t
  | .r t => S'.row t = S.row t
  | .w t => S'.own t = S.own t

theorem Rd.val_congr {S S' : St} {α : Type} (m : Rd α) (h : ∀ l ∈ m.reads S, S.agree S' l) : m.val S' = m.val S := by
  induction m with
  | ret a => rfl
  | fail => rfl
  | slot t k ih =>
    have h0 : S'.slot t = S.slot t := h (.s t) (by simp [Rd.reads])
    simp only [Rd.val, h0]
    exact ih _ fun l hl => h l (by simp [Rd.reads, hl])
  | row t k ih =>
    have h0 : S'.row t = S.row t := h (.r t) (by simp [Rd.reads])
    simp only [Rd.val, h0]
    exact ih _ fun l hl => h l (by simp [Rd.reads, hl])
  | own t k ih =>
    have h0 : S'.own t = S.own t := h (.w t) (by simp [Rd.reads])
    simp only [Rd.val, h0]
    exact ih _ fun l hl => h l (by simp [Rd.reads, hl])

theorem Rd.val_bind {S : St} {α β : Type} (m : Rd α) (f : α → Rd β) : (m >>= f).val S = (m.val S).bind fun a => (f a).val S := by
  show (m.bind f).val S = _
  induction m with
  | ret a => rfl
  | fail => rfl
  | slot t k ih => exact ih _
  | row t k ih => exact ih _
  | own t k ih => exact ih _

theorem Rd.val_bind_some {S : St} {α β : Type} {m : Rd α} {f : α → Rd β} {b : β} (h : (m >>= f).val S = some b) : ∃ a, m.val S = some a ∧ (f a).val S = some b := by
  rw [Rd.val_bind] at h
  cases hm : m.val S with
  | none => rw [hm] at h; cases h
  | some a => rw [hm] at h; exact ⟨a, rfl, h⟩
end Go.Sx

/-
  What an abstract state says of the machine's, and: a region whose steps touch different places comes to one end in whatever order.
-/
namespace Go.Sx

def RC.cont (σ : Nat → GV) (ρ : Nat → Value) : RC → List Value
  | .lst l => l.map (A1.conc σ ρ)
  | .all n => (ρ n).cells.toList
  | .nest n => (ρ n).cells.toList

def RC.pure : RC → Bool
  | .lst l => l.all A1.pure
  | _ => true
def RC.cden (ρ : Nat → Value) : RC → List Value
  | .lst l => l.map (A1.den ρ)
  | .all n => (ρ n).cells.toList
  | .nest n => (ρ n).cells.toList

theorem RC.cont_pure {r : RC} (h : r.pure = true) (σ ρ) : r.cont σ ρ = r.cden ρ := by
  cases r with
  | lst l => exact map_conc_pure h σ ρ
  | all n => rfl
  | nest n => rfl

theorem RC.cont_congr {r : RC} {σ σ' : Nat → GV} {ρ} (h : ∀ k ∈ r.gh, σ' k = σ k) : r.cont σ' ρ = r.cont σ ρ := by
  cases r with
  | lst l => exact map_conc_congr h
  | all n => rfl
  | nest n => rfl

/-- what is known of a value's cells -/
def AT.ok (σ : Nat → GV) (ρ : Nat → Value) : AT → Prop
  | .one _ => True
  | .agg l => ∀ c ∈ l, (c.conc σ ρ).oneCell' = true
def AV.ok (σ : Nat → GV) (ρ : Nat → Value) : AV → Prop
  | .at x => x.ok σ ρ
  | .tup l => ∀ x ∈ l, x.ok σ ρ
theorem AT.ok_congr {a : AT} {σ σ' : Nat → GV} {ρ} (h : ∀ k ∈ a.gh, σ' k = σ k) (hk : a.ok σ ρ) : a.ok σ' ρ := by
  cases a with
  | one a => trivial
  | agg l =>
    intro c hc
    rw [A1.conc_congr fun k hk => h k (List.mem_flatMap.2 ⟨c, hc, hk⟩)]
    exact hk c hc
theorem AV.ok_congr {a : AV} {σ σ' : Nat → GV} {ρ} (h : ∀ k ∈ a.gh, σ' k = σ k) (hk : a.ok σ ρ) : a.ok σ' ρ := by
  cases a with
  | «at» a => exact AT.ok_congr h hk
  | tup l =>
    intro x hx
    exact AT.ok_congr (fun k hk => h k (List.mem_flatMap.2 ⟨x, hx, hk⟩)) (hk x hx)

/-- a slice, or a variable, that reads as these cells -/
structure SliceR (w : World) (g : GV) (cs : List Value) : Prop where
  nil : g.nil = true → cs = [] ∧ g.len = 0 ∧ g.cap = 0
  live : g.nil = false → g.blk < w.heap.size
  at_ : g.nil = false → w.rangeAt g.blk g.off cs
  one : ∀ c ∈ cs, c.oneCell' = true

structure RowOK (b0 : Nat) (σ : Nat → GV) (ρ : Nat → Value) (w : World) (k : Nat) (r : Row) : Prop where
  rd : SliceR w (σ k) (r.c.cont σ ρ)
  len : r.es ≠ 0 → (r.c.cont σ ρ).length = (σ k).len * r.es ∧ (σ k).len ≤ (σ k).cap
  app : ∀ e, r.ap = some e → r.es ≠ 0 ∧ w.ownsRow b0 e r.es (σ k).slv (σ k).len (r.c.cont σ ρ)

/-- What is known of memory beside what the state names. -/
structure Frm (w0 w : World) (M : Nat → Prop) : Prop where
  os : w.os = w0.os
  tape : w.tape = w0.tape
  output : w.output = w0.output
  size : w0.heap.size ≤ w.heap.size
  block : ∀ k, k < w0.heap.size → ¬ M k → w.heap[k]? = w0.heap[k]?

/-- which old blocks may be written; which old blocks rows may lie in -/
structure Ms where
  m : Nat → Prop
  a : Nat → Prop

structure Gam (w0 : World) (M : Ms) (N : Nat) (S : St) (σ : Nat → GV) (ρ : Nat → Value) (a : Act) (w : World) : Prop where
  defers : a.defers = []
  size : a.tmps.size = N
  slot : ∀ t v, S.slot t = some v → a.tmps[t]? = some (v.conc σ ρ) ∧ v.ok σ ρ
  row : ∀ k r, S.row k = some r → RowOK w0.heap.size σ ρ w k r
  own : ∀ k, S.own k = true → ∃ r, S.row k = some r ∧ ((σ k).nil = false →
    w.there (σ k).blk (σ k).off (r.c.cont σ ρ).length ∧ (w0.heap.size ≤ (σ k).blk ∨ M.m (σ k).blk) ∧
    ∀ k' r', k' ≠ k → S.row k' = some r' → (σ k').nil = false → (σ k').blk ≠ (σ k).blk)
  glob : ∀ g, g < 10000 → (σ g).blk = g ∧ (σ g).off = 0
  src : ∀ k r, S.row k = some r → (σ k).nil = false → M.a (σ k).blk ∨ w0.heap.size ≤ (σ k).blk
  frm : Frm w0 w M.m

/-- the states say the same -/
structure St.Eqv (S S' : St) : Prop where
  slot : ∀ t, S'.slot t = S.slot t
  row : ∀ t, S'.row t = S.row t
  own : ∀ t, S'.own t = S.own t

theorem Gam.congr {w0 M N S S' σ ρ a w} (h : Gam w0 M N S σ ρ a w) (e : S.Eqv S') : Gam w0 M N S' σ ρ a w where
  defers := h.defers
  size := h.size
  slot t v hv := h.slot t v (by rw [← e.slot]; exact hv)
  row k r hr := h.row k r (by rw [← e.row]; exact hr)
  own k hk := by
    obtain ⟨r, hr, h1⟩ := h.own k (by rw [← e.own]; exact hk)
    refine ⟨r, by rw [e.row]; exact hr, fun hn => ?_⟩
    obtain ⟨a1, a2, a3⟩ := h1 hn
    exact ⟨a1, a2, fun k' r' hne hr' => a3 k' r' hne (by rw [← e.row]; exact hr')⟩
  glob := h.glob
  src k r hr := h.src k r (by rw [← e.row]; exact hr)
  frm := h.frm

/-- data of what is handed to a call -/
inductive D1 where
  | a (x : A1)
  | rc (r : RC)
  | nest (l : List RC)
  deriving Inhabited
inductive DE where
  | one (x : D1)
  | agg (l : List D1)
  deriving Inhabited
def D1.den (ρ : Nat → Value) : D1 → Value
  | .a x => x.den ρ
  | .rc r => .agg (r.cden ρ).toArray
  | .nest l => .agg (l.map fun r => Value.agg (r.cden ρ).toArray).toArray
def DE.den (ρ : Nat → Value) : DE → Value
  | .one x => x.den ρ
  | .agg l => .agg (l.map (D1.den ρ)).toArray

/-- how a value reads as data: plain; a slice (elements of so many cells; element type); a slice that is not to be written; a slice of so many slices -/
inductive S1 where
  | v
  | s (es el : Nat)
  | sv (es : Nat)
  | ss (n : Nat)
  deriving Inhabited
inductive S2 where
  | one (c : S1)
  | agg (l : List S1)
  deriving Inhabited
inductive Sh where
  | two (x : S2)
  | tup (l : List S2)
  deriving Inhabited
structure FS where
  recv : Option (List S1)
  args : List S2
  res : Sh
  deriving Inhabited

/-- what must hold of the valuation -/
inductive Cmd where
  | isAgg (n k : Nat)
  | isOne (a : A1)
  | isBool (n : Nat) (b : Bool)
  | bnd (n len : Nat)
  | bndl (n m es : Nat)
  | ltlen (j n es : Nat)
  | cp (a : A1) (v : Nat)
  | bin (op : BinOp) (T : Nat) (a b : AV) (v : Nat)
  | un (op : UnOp) (a : AV) (v : Nat)
  | conv (s d : Nat) (a : AV) (v : Nat)
  | tupc (n i v : Nat)
  | get (r : RC) (i v : Nat)
  | geta (r : RC) (i sz v : Nat)
  | getx (r : RC) (n sc v : Nat)
  | getxa (r : RC) (n sc sz v : Nat)
  | set (r : RC) (i : Nat) (a : A1) (v : Nat)
  | setx (r : RC) (n sc : Nat) (a : A1) (v : Nat)
  | len (n es v : Nat)
  | sub (r : RC) (lo hi : Option A1) (es v : Nat)
  | app (r q : RC) (el es v : Nat)
  | pick (c a b : A1) (v : Nat)
  | call (f : Nat) (fs : FS) (args : List DE) (v : Nat)
  | callm (f : Nat) (fs : FS) (rv : DE) (args : List DE) (v u : Nat)
  | tostr (r : RC) (v : Nat)
  | mk (z : List Value) (l : A1) (es v : Nat)
  | ext (T : Nat) (o : Op) (args : List AV) (v : Nat)
  deriving Inhabited

structure Dl where
  dst : Option Nat
  v : AV
  rw : List (Nat × Option Row) := []
  wr : List (Nat × Bool) := []
  cm : List Cmd := []
  dv : Nat := 0
  deriving Inhabited

def St.app (S : St) (d : Dl) : St where
  sl := (match d.dst with | some t => [(t, d.v)] | none => []) ++ S.sl
  rw := d.rw ++ S.rw
  wr := d.wr ++ S.wr

def Dl.writes (d : Dl) : List Loc := (match d.dst with | some t => [.s t] | none => []) ++ d.rw.map (fun x => .r x.1) ++ d.wr.map (fun x => .w x.1)

theorem St.app_keeps {S : St} {d : Dl} {l : Loc} (h : l ∉ d.writes) : S.agree (S.app d) l := by
  simp only [Dl.writes, List.mem_append, not_or] at h
  obtain ⟨⟨h1, h2⟩, h3⟩ := h
  cases l with
  | s t =>
    simp only [St.agree, St.slot, St.app, lk_append]
    cases hd : d.dst with
    | none => simp [lk]
    | some u =>
      rw [hd] at h1
      have : u ≠ t := fun e => h1 (by simp [e])
      simp [lk, this]
  | r t =>
    simp only [St.agree, St.row, St.app, lk_append]
    rw [lk_none (l := d.rw) (fun hm => h2 (by
      obtain ⟨x, hx, e⟩ := List.mem_map.1 hm
      exact List.mem_map.2 ⟨x, hx, by rw [e]⟩))]
    simp
  | w t =>
    simp only [St.agree, St.own, St.app, lk_append]
    rw [lk_none (l := d.wr) (fun hm => h3 (by
      obtain ⟨x, hx, e⟩ := List.mem_map.1 hm
      exact List.mem_map.2 ⟨x, hx, by rw [e]⟩))]
    simp

/-- two states that agree at a place agree there behind the same step; and where the step writes they agree anyway -/
theorem St.app_agree {S S' : St} {d : Dl} {l : Loc} (h : S.agree S' l ∨ l ∈ d.writes) : (S.app d).agree (S'.app d) l := by
  by_cases hm : l ∈ d.writes
  · cases l with
    | s t =>
      simp only [St.agree, St.slot, St.app, lk_append]
      cases hd : d.dst with
      | none => simp [Dl.writes, hd] at hm
      | some u =>
        have : u = t := by simpa [Dl.writes, hd, eq_comm] using hm
        simp [lk, this]
    | r t =>
      simp only [St.agree, St.row, St.app, lk_append]
      have hm' : t ∈ d.rw.map (·.1) := by
        cases hd : d.dst <;> simp [Dl.writes, hd] at hm ⊢ <;> exact hm
      cases hl : lk d.rw t with
      | some x => simp
      | none =>
        exfalso
        obtain ⟨x, hx, e⟩ := List.mem_map.1 hm'
        clear hm hm'
        revert hl hx
        generalize d.rw = L
        intro hl hx
        induction L with
        | nil => cases hx
        | cons y L ih =>
          obtain ⟨k, u⟩ := y
          simp only [lk] at hl
          split at hl
          · cases hl
          · rename_i hne
            rcases List.mem_cons.1 hx with rfl | hx
            · exact hne e
            · exact ih hl hx
    | w t =>
      simp only [St.agree, St.own, St.app, lk_append]
      have hm' : t ∈ d.wr.map (·.1) := by
        cases hd : d.dst <;> simp [Dl.writes, hd] at hm ⊢ <;> exact hm
      cases hl : lk d.wr t with
      | some x => simp
      | none =>
        exfalso
        obtain ⟨x, hx, e⟩ := List.mem_map.1 hm'
        clear hm hm'
        revert hl hx
        generalize d.wr = L
        intro hl hx
        induction L with
        | nil => cases hx
        | cons y L ih =>
          obtain ⟨k, u⟩ := y
          simp only [lk] at hl
          split at hl
          · cases hl
          · rename_i hne
            rcases List.mem_cons.1 hx with rfl | hx
            · exact hne e
            · exact ih hl hx
  · have h' : S.agree S' l := h.resolve_right hm
    have a := St.app_keeps (S := S) hm
    have b := St.app_keeps (S := S') hm
    cases l <;> simp only [St.agree] at * <;> rw [b, h', ← a]

/-- the state behind the steps below n that have been taken -/
def SD (S0 : St) (f : Nat → Dl) (D : Nat → Bool) : Nat → St
  | 0 => S0
  | n + 1 => if D n then (SD S0 f D n).app (f n) else SD S0 f D n

theorem St.agree_refl (S : St) (l : Loc) : S.agree S l := by cases l <;> rfl
theorem St.agree_trans {S S' S'' : St} {l : Loc} (h : S.agree S' l) (h' : S'.agree S'' l) : S.agree S'' l := by
  cases l <;> simp only [St.agree] at * <;> rw [h', h]
theorem St.agree_symm {S S' : St} {l : Loc} (h : S.agree S' l) : S'.agree S l := by
  cases l <;> simp only [St.agree] at * <;> rw [h]

theorem SD_agree (S0 : St) (f : Nat → Dl) (D D' : Nat → Bool) (l : Loc) : ∀ n, (∀ i, i < n → D i ≠ D' i → l ∉ (f i).writes) → (SD S0 f D n).agree (SD S0 f D' n) l := by
  intro n
  induction n with
  | zero => intro _; exact St.agree_refl _ _
  | succ n ih =>
    intro h
    have ih := ih fun i hi => h i (by omega)
    have hn := h n (by omega)
    simp only [SD]
    cases hD : D n <;> cases hD' : D' n <;> simp only [if_true, if_false, Bool.false_eq_true]
    · exact ih
    · exact St.agree_trans ih (St.app_keeps (hn (by rw [hD, hD']; simp)))
    · exact St.agree_trans (St.agree_symm (St.app_keeps (hn (by rw [hD, hD']; simp)))) ih
    · exact St.app_agree (.inl ih)

theorem SD_lt (S0 : St) (f : Nat → Dl) (j : Nat) : ∀ n, j ≤ n → SD S0 f (fun i => decide (i < j)) n = SD S0 f (fun _ => true) j := by
  intro n
  induction n with
  | zero => intro h; have : j = 0 := by omega
            subst this; rfl
  | succ n ih =>
    intro h
    by_cases hj : j = n + 1
    · subst hj
      clear ih h
      have : ∀ m, m ≤ n + 1 → SD S0 f (fun i => decide (i < n + 1)) m = SD S0 f (fun _ => true) m := by
        intro m
        induction m with
        | zero => intro _; rfl
        | succ m ih => intro hm; simp only [SD]; rw [ih (by omega)]; simp [show m < n + 1 by omega]
      exact this _ (Nat.le_refl _)
    · simp only [SD]
      rw [if_neg (by simp; omega)]
      exact ih (by omega)

/-- one step more, in its place: the same as at the end -/
theorem SD_add (S0 : St) (f : Nat → Dl) (D : Nat → Bool) (j n : Nat) (hj : j < n) (hD : D j = false)
    (hi : ∀ i, i < n → D i = true → j < i → ∀ l ∈ (f j).writes, l ∉ (f i).writes) :
    ((SD S0 f D n).app (f j)).Eqv (SD S0 f (fun i => D i || i == j) n) := by
  have key : ∀ l, ((SD S0 f D n).app (f j)).agree (SD S0 f (fun i => D i || i == j) n) l := by
    intro l
    by_cases hl : l ∈ (f j).writes
    · -- both are what j writes: at j + 1, then nobody behind
      have : ∀ m, j < m → m ≤ n → ((SD S0 f D n).app (f j)).agree (SD S0 f (fun i => D i || i == j) m) l := by
        intro m
        induction m with
        | zero => intro h; omega
        | succ m ih =>
          intro h1 h2
          simp only [SD]
          by_cases hm : m = j
          · subst hm
            simp only [beq_self_eq_true, Bool.or_true, if_true]
            exact St.app_agree (.inr hl)
          · have ih := ih (by omega) (by omega)
            have hb : (m == j) = false := by simpa using hm
            simp only [hb, Bool.or_false]
            cases hDm : D m
            · simpa using ih
            · simp only [if_true]
              exact St.agree_trans ih (St.app_keeps (hi m (by omega) hDm (by omega) l hl))
      exact this n hj (Nat.le_refl _)
    · refine St.agree_trans (St.agree_symm (St.app_keeps hl)) (SD_agree S0 f _ _ l n fun i hi' hne => ?_)
      by_cases e : i = j
      · subst e; exact hl
      · exfalso; apply hne
        have hb : (i == j) = false := by simpa using e
        simp [hb]
  exact ⟨fun t => key (.s t), fun t => key (.r t), fun t => key (.w t)⟩
end Go.Sx

/-
  A region: whatever order its edges allow, it comes to the end that the text's order comes to.
-/
namespace Go.Sx

def St.ment (S : St) (k : Nat) : Prop :=
  (∃ t v, S.slot t = some v ∧ k ∈ v.gh) ∨ (∃ k' r, S.row k' = some r ∧ (k = k' ∨ k ∈ r.c.gh)) ∨ S.own k = true

def Dl.ment (d : Dl) : List Nat :=
  (match d.dst with | some _ => d.v.gh | none => []) ++ d.rw.flatMap (fun x => x.1 :: (match x.2 with | some r => r.c.gh | none => [])) ++ d.wr.map (·.1)

theorem St.app_ment {S : St} {d : Dl} {k : Nat} (h : (S.app d).ment k) : S.ment k ∨ k ∈ d.ment := by
  rcases h with ⟨t, v, h1, h2⟩ | ⟨k', r, h1, h2⟩ | h1
  · simp only [St.slot, St.app, lk_append] at h1
    cases hd : d.dst with
    | none => rw [hd] at h1; simp [lk] at h1; exact .inl (.inl ⟨t, v, h1, h2⟩)
    | some u =>
      rw [hd] at h1
      simp only [lk] at h1
      split at h1
      · simp at h1; subst h1; right; simp [Dl.ment, hd, h2]
      · simp at h1; exact .inl (.inl ⟨t, v, h1, h2⟩)
  · simp only [St.row, St.app, lk_append] at h1
    cases hl : lk d.rw k' with
    | none => rw [hl] at h1; simp at h1; exact .inl (.inr (.inl ⟨k', r, by simp [St.row, h1], h2⟩))
    | some x =>
      rw [hl] at h1
      simp at h1
      subst h1
      right
      have := lk_some_mem hl
      simp only [Dl.ment, List.mem_append, List.mem_flatMap]
      left; right
      exact ⟨_, this, by rcases h2 with rfl | h2 <;> simp_all⟩
  · simp only [St.own, St.app, lk_append] at h1
    cases hl : lk d.wr k with
    | none => rw [hl] at h1; simp at h1; exact .inl (.inr (.inr (by simpa [St.own] using h1)))
    | some x =>
      right
      have := lk_some_mem hl
      simp only [Dl.ment, List.mem_append]
      right
      exact List.mem_map.2 ⟨_, this, rfl⟩

theorem SD_ment {S0 : St} {f : Nat → Dl} {D : Nat → Bool} {k : Nat} : ∀ n, (SD S0 f D n).ment k → S0.ment k ∨ ∃ i, i < n ∧ D i = true ∧ k ∈ (f i).ment := by
  intro n
  induction n with
  | zero => intro h; exact .inl h
  | succ n ih =>
    intro h
    simp only [SD] at h
    split at h
    · rename_i hD
      rcases St.app_ment h with h | h
      · rcases ih h with h | ⟨i, a, b, c⟩
        · exact .inl h
        · exact .inr ⟨i, by omega, b, c⟩
      · exact .inr ⟨n, by omega, hD, h⟩
    · rcases ih h with h | ⟨i, a, b, c⟩
      · exact .inl h
      · exact .inr ⟨i, by omega, b, c⟩

section
variable {P : Program} {ops : Array Oper} {Q : Exit → Act → World → Prop}

structure RegOK (ops : Array Oper) (n gb : Nat) (f : Nat → Dl) (rd : Nat → List Loc) (anc : Nat → Nat → Bool) : Prop where
  size : ops.size = n
  edge : ∀ j o, ops[j]? = some o → ∀ e ∈ o.after, Region.binds .any e = true → e.on < j
  pre : ∀ j o i, ops[j]? = some o → anc j i = true → ∃ e ∈ o.after, Region.binds .any e = true ∧ (e.on = i ∨ anc e.on i = true)
  ind : ∀ i j, i < j → j < n → anc j i = false → (∀ l ∈ (f i).writes, l ∉ rd j ∧ l ∉ (f j).writes) ∧ (∀ l ∈ (f j).writes, l ∉ rd i)
  ment : ∀ i, i < n → ∀ k ∈ (f i).ment, k < gb ∨ ∃ i', (i' = i ∨ anc i i' = true) ∧ gb + 4 * i' ≤ k ∧ k < gb + 4 * i' + 4

theorem region_any {n gb : Nat} {f : Nat → Dl} {rd : Nat → List Loc} {anc : Nat → Nat → Bool} {ms : Nat → Rd Dl} (hR : RegOK ops n gb f rd anc)
    {w0 : World} {M : Ms} {N : Nat} {S0 : St} {ρ : Nat → Value}
    (htext : ∀ j, j < n → (ms j).val (SD S0 f (fun _ => true) j) = some (f j) ∧ (ms j).reads (SD S0 f (fun _ => true) j) = rd j)
    (h0 : ∀ k, S0.ment k → k < gb)
    (hsound : ∀ j, j < n → ∀ S σ a w, (ms j).val S = some (f j) → (∀ k, gb + 4 * j ≤ k → k < gb + 4 * j + 4 → ¬ S.ment k) → Gam w0 M N S σ ρ a w →
      ∀ K : Act → World → Prop, (∀ σ' a' w', Gam w0 M N (S.app (f j)) σ' ρ a' w' → K a' w') → wpOp P ops Q j K a w)
    (hQ : ∀ σ a w, Gam w0 M N (SD S0 f (fun _ => true) n) σ ρ a w → Q .normal a w) :
    ∀ (fuel : Nat) (listed : Array Bool) (σ : Nat → GV) (a : Act) (w : World), listed.size = n →
      (∀ j, listed.getD j false = true → ∀ i, anc j i = true → listed.getD i false = true) →
      Gam w0 M N (SD S0 f (fun i => listed.getD i false) n) σ ρ a w →
      (List.range n).countP (fun i => !listed.getD i false) ≤ fuel →
      wpAny P .any ops Q fuel listed a w := by
  -- where nothing is ready, all is listed
  have hall : ∀ listed : Array Bool, listed.size = n → Region.ready .any ops listed = [] → ∀ i, i < n → listed.getD i false = true := by
    intro listed hsz hr
    intro i
    induction i using Nat.strongRecOn with
    | _ i ih =>
      intro hi
      apply Classical.byContradiction
      intro hne
      have hlt : i < ops.size := by rw [hR.size]; exact hi
      have hio : ops[i]? = some ops[i] := Array.getElem?_eq_getElem hlt
      have : i ∈ Region.ready .any ops listed := mem_ready.2 ⟨by
        have h1 : listed.getD i false = listed[i]'(by omega) := by simp [Array.getD, show i < listed.size by omega]
        have h2 : listed.getD i true = listed[i]'(by omega) := by simp [Array.getD, show i < listed.size by omega]
        rw [h2, ← h1]; simpa using hne, _, hio, fun e he hb => by
        have := hR.edge i _ hio e he hb
        exact ih e.on this (by omega)⟩
      rw [hr] at this
      cases this
  have hSDall : ∀ listed : Array Bool, (∀ i, i < n → listed.getD i false = true) → SD S0 f (fun i => listed.getD i false) n = SD S0 f (fun _ => true) n := by
    intro listed h
    have : ∀ m, m ≤ n → SD S0 f (fun i => listed.getD i false) m = SD S0 f (fun _ => true) m := by
      intro m
      induction m with
      | zero => intro _; rfl
      | succ m ih => intro hm; simp only [SD, ih (by omega), h m (by omega)]
    exact this n (Nat.le_refl _)
  intro fuel
  induction fuel with
  | zero =>
    intro listed σ a w hsz hdc hg hc
    have hl : ∀ i, i < n → listed.getD i false = true := by
      intro i hi
      apply Classical.byContradiction
      intro hne
      have : 0 < (List.range n).countP (fun i => !listed.getD i false) := List.countP_pos_iff.2 ⟨i, List.mem_range.2 hi, by simpa using hne⟩
      omega
    refine ⟨?_, hQ σ a w (by rw [← hSDall listed hl]; exact hg)⟩
    rw [List.eq_nil_iff_forall_not_mem]
    intro i hi
    obtain ⟨h1, o, ho, _⟩ := mem_ready.1 hi
    have hin : i < n := by rw [← hR.size]; exact (Array.getElem?_eq_some_iff.1 ho).1
    have := hl i hin
    have h1' : listed.getD i true = listed[i]'(by omega) := by simp [Array.getD, show i < listed.size by omega]
    have h2' : listed.getD i false = listed[i]'(by omega) := by simp [Array.getD, show i < listed.size by omega]
    rw [h1', ← h2', this] at h1
    cases h1
  | succ fuel ih =>
    intro listed σ a w hsz hdc hg hc
    refine ⟨fun hr => hQ σ a w (by rw [← hSDall listed (hall listed hsz hr)]; exact hg), fun j hj => ?_⟩
    obtain ⟨h1, o, ho, hpre⟩ := mem_ready.1 hj
    have hjn : j < n := by rw [← hR.size]; exact (Array.getElem?_eq_some_iff.1 ho).1
    have hDj : listed.getD j false = false := by
      have h1' : listed.getD j true = listed[j]'(by omega) := by simp [Array.getD, show j < listed.size by omega]
      have h2' : listed.getD j false = listed[j]'(by omega) := by simp [Array.getD, show j < listed.size by omega]
      rw [h2', ← h1', h1]
    have hancj : ∀ i, anc j i = true → listed.getD i false = true := by
      intro i hi
      obtain ⟨e, he, hb, h | h⟩ := hR.pre j o i ho hi
      · rw [← h]; exact hpre e he hb
      · exact hdc e.on (hpre e he hb) i h
    -- what j asks is as in the text's order
    have hag : ∀ l ∈ (ms j).reads (SD S0 f (fun _ => true) j), (SD S0 f (fun _ => true) j).agree (SD S0 f (fun i => listed.getD i false) n) l := by
      intro l hl
      rw [(htext j hjn).2] at hl
      rw [← SD_lt S0 f j n (by omega)]
      refine SD_agree S0 f _ _ l n fun i hi hne => ?_
      by_cases hij : i < j
      · have hf : listed.getD i false = false := by simpa [hij] using hne
        have hna : anc j i = false := by
          cases h : anc j i with
          | false => rfl
          | true => rw [hancj i h] at hf; cases hf
        exact fun hm => ((hR.ind i j hij hjn hna).1 l hm).1 hl
      · have hf : listed.getD i false = true := by simpa [hij] using hne
        have hne' : j ≠ i := by rintro rfl; rw [hDj] at hf; cases hf
        have hna : anc i j = false := by
          cases h : anc i j with
          | false => rfl
          | true => have := hdc i hf j h; rw [hDj] at this; cases this
        exact fun hm => (hR.ind j i (by omega) hi hna).2 l hm hl
    have hval := Rd.val_congr (ms j) hag
    rw [(htext j hjn).1] at hval
    refine hsound j hjn _ σ a w hval (fun k hk1 hk2 hm => ?_) hg _ fun σ' a' w' hg' => ?_
    · rcases SD_ment n hm with h | ⟨i, hi, hDi, hk⟩
      · have := h0 k h; omega
      · rcases hR.ment i hi k hk with h | ⟨i', h | h, h2, h3⟩
        · omega
        · subst h
          have : i' = j := by omega
          subst this
          rw [hDj] at hDi; cases hDi
        · have : i' = j := by omega
          subst this
          have := hdc i hDi _ h
          rw [hDj] at this; cases this
    · have hset : ∀ i, (listed.setIfInBounds j true).getD i false = (listed.getD i false || i == j) := by
        intro i
        by_cases e : i = j
        · subst e; simp [Array.getD, hsz, hjn]
        · have hb : (i == j) = false := by simpa using e
          rw [getD_set_ne false (fun h => e h.symm)]
          simp [hb]
      refine ih _ σ' a' w' (by simpa using hsz) ?_ ?_ ?_
      · intro i hi i' hi'
        rw [hset] at hi ⊢
        by_cases e : i = j
        · subst e; rw [hancj i' hi']; rfl
        · have hb : (i == j) = false := by simpa using e
          rw [hb, Bool.or_false] at hi
          rw [hdc i hi i' hi']; rfl
      · have he := SD_add S0 f (fun i => listed.getD i false) j n hjn hDj (fun i hi hDi hji l hl hl' => by
          have hna : anc i j = false := by
            cases h : anc i j with
            | false => rfl
            | true => have := hdc i hDi j h; rw [hDj] at this; cases this
          exact ((hR.ind j i hji hi hna).1 l hl).2 hl')
        have := hg'.congr he
        simpa only [hset] using this
      · have h1 : (List.range n).countP (fun i => !(listed.setIfInBounds j true).getD i false) < (List.range n).countP (fun i => !listed.getD i false) := by
          have hsub : ∀ i, (!(listed.setIfInBounds j true).getD i false) = true → (!listed.getD i false) = true := by
            intro i h; rw [hset] at h; revert h; cases listed.getD i false <;> simp
          have hlt : ∀ (l : List Nat), j ∈ l → l.countP (fun i => !(listed.setIfInBounds j true).getD i false) < l.countP (fun i => !listed.getD i false) := by
            intro l
            induction l with
            | nil => intro h; cases h
            | cons x l ihl =>
              intro h
              have hle : l.countP (fun i => !(listed.setIfInBounds j true).getD i false) ≤ l.countP (fun i => !listed.getD i false) :=
                List.countP_mono_left fun i _ hi => hsub i hi
              by_cases hx : x = j
              · subst hx
                have h1 : (!(listed.setIfInBounds x true).getD x false) = false := by rw [hset]; simp
                have h2 : (!listed.getD x false) = true := by rw [hDj]; rfl
                rw [List.countP_cons, List.countP_cons, h1, h2]
                simp only [if_true, Bool.false_eq_true, if_false]
                omega
              · have := ihl (by simpa [Ne.symm hx] using h)
                have hb : (x == j) = false := by simpa using hx
                have hx' : (listed.setIfInBounds j true).getD x false = listed.getD x false := by rw [hset, hb, Bool.or_false]
                rw [List.countP_cons, List.countP_cons]
                simp only [hx']
                omega
          exact hlt _ (List.mem_range.2 hjn)
        omega

/-- a plain region: its operations in the text's order -/
theorem region_text {n gb : Nat} {f : Nat → Dl} {ms : Nat → Rd Dl} (hsz : ops.size = n)
    {w0 : World} {M : Ms} {N : Nat} {S0 : St} {ρ : Nat → Value}
    (hment : ∀ i, i < n → ∀ k ∈ (f i).ment, k < gb + 4 * i + 4)
    (htext : ∀ j, j < n → (ms j).val (SD S0 f (fun _ => true) j) = some (f j))
    (h0 : ∀ k, S0.ment k → k < gb)
    (hsound : ∀ j, j < n → ∀ S σ a w, (ms j).val S = some (f j) → (∀ k, gb + 4 * j ≤ k → k < gb + 4 * j + 4 → ¬ S.ment k) → Gam w0 M N S σ ρ a w →
      ∀ K : Act → World → Prop, (∀ σ' a' w', Gam w0 M N (S.app (f j)) σ' ρ a' w' → K a' w') → wpOp P ops Q j K a w)
    (hQ : ∀ σ a w, Gam w0 M N (SD S0 f (fun _ => true) n) σ ρ a w → Q .normal a w) :
    ∀ (d j : Nat) (σ : Nat → GV) (a : Act) (w : World), j + d = n → Gam w0 M N (SD S0 f (fun _ => true) j) σ ρ a w →
      wpOps P ops Q (List.range' j d) a w := by
  intro d
  induction d with
  | zero => intro j σ a w hj hg; have : j = n := by omega
            subst this; simpa [wpOps] using hQ σ a w hg
  | succ d ih =>
    intro j σ a w hj hg
    rw [List.range'_succ, wpOps_cons]
    refine hsound j (by omega) _ σ a w (htext j (by omega)) (fun k hk1 hk2 hm => ?_) hg _ fun σ' a' w' hg' => ih (j + 1) σ' a' w' (by omega) (by simpa [SD] using hg')
    rcases SD_ment j hm with h | ⟨i, hi, _, hk⟩
    · have := h0 k h; omega
    · have := hment i (by omega) k hk; omega
end
end Go.Sx

/-
  The executor: what one operation does to an abstract state; a region; a piece of code.
-/
namespace Go.Sx

inductive TK where
  | sc
  | u8
  | stg
  | arr (n el : Nat)
  | str (fs : List (Nat × Nat))
  | slc (el : Nat)
  deriving Inhabited
def TK.row : TK → Bool
  | .arr .. | .str .. => true
  | _ => false
structure TI where
  k : TK
  size : Nat
  bytes : Nat
  zero : List Value
  deriving Inhabited

structure Cfg where
  ti : Nat → Option TI
  fn : Nat → Option FS
  dec : Nat → Option Bool
  un : Nat
  N : Nat

def Rd.opt {α : Type} : Option α → Rd α
  | some a => .ret a
  | none => .fail
def Rd.chk {α : Type} (b : Bool) (m : Rd α) : Rd α := if b then m else .fail

def opnd : Operand → Rd AV
  | .tmp t => .slot t Rd.opt
  | .const v => .ret (.at (.one (.lit v)))
  | .global g => Rd.chk (g < 10000) (.ret (.at (.one (.ptr g 0))))
  | .func f => .ret (.at (.one (.lit (.func (.func f) #[] #[]))))

def A1.one? : A1 → Bool
  | .lit v => v.oneCell'
  | .ptr .. | .ptrx .. | .sl _ => true
  | _ => false

/-- the cells of a value of a type, and what must hold for it -/
def cellsOf (t : TI) : AV → Option (List A1 × List Cmd)
  | .at (.agg l) => if t.k.row && l.length == t.size then some (l, []) else none
  | .at (.one (.var n)) => if t.k.row then some ((List.range t.size).map (fun i => .part n i t.size), [.isAgg n t.size]) else if t.size == 1 then some ([.var n], [.isOne (.var n)]) else none
  | .at (.one (.lit (.agg cs))) => if t.k.row && cs.toList.length == t.size && cs.toList.all Value.oneCell' then some (cs.toList.map .lit, []) else none
  | .at (.one a) => if t.k.row then none else if t.size == 1 then some ([a], if a.one? then [] else [.isOne a]) else none
  | .tup _ => none

/-- is it a whole variable? -/
def etaAgg (l : List A1) : AV × List Cmd :=
  match l with
  | .part n 0 sz :: _ => if sz == l.length && l.zipIdx.all (fun x => match x.1 with | .part m i s => m == n && i == x.2 && s == sz | _ => false) then (.at (.one (.var n)), [.isAgg n sz]) else (.at (.agg l), [])
  | _ => (.at (.agg l), [])

def put (l : List A1) (o : Nat) (cs : List A1) : List A1 := l.take o ++ cs ++ l.drop (o + cs.length)

structure Out where
  v : AV
  rw : List (Nat × Option Row) := []
  wr : List (Nat × Bool) := []
  cm : List Cmd := []
  dv : Nat := 0
def Out.dl (o : Out) (dst : Option Nat) : Dl := { dst, v := o.v, rw := o.rw, wr := o.wr, cm := o.cm, dv := o.dv }

def AV.a1 : AV → Rd A1
  | .at (.one a) => .ret a
  | _ => .fail
def v1 (n : Nat) : AV := .at (.one (.var n))
def row! (k : Nat) (c : Row → Rd Out) : Rd Out := .row k fun | some r => c r | none => .fail

def doLoad (C : Cfg) (nv : Nat) (T : Nat) (x : AV) : Rd Out :=
  match C.ti T with
  | none => .fail
  | some t =>
    match x with
    | .at (.one (.ptr k o)) => row! k fun r =>
      match r.c with
      | .lst l =>
        let cs := (l.drop o).take t.size
        Rd.chk (o + t.size ≤ l.length) <|
          if t.k.row then let e := etaAgg cs; .ret { v := e.1, cm := e.2 }
          else match cs with
            | [c] => .ret { v := .at (.one c) }
            | _ => .fail
      | c => if t.k.row then .ret { v := v1 nv, cm := [.geta c o t.size nv], dv := 1 } else Rd.chk (t.size == 1) (.ret { v := v1 nv, cm := [.get c o nv], dv := 1 })
    | .at (.one (.ptrx k n sc)) => row! k fun r =>
      Rd.chk r.c.pure <| if t.k.row then .ret { v := v1 nv, cm := [.getxa r.c n sc t.size nv], dv := 1 } else Rd.chk (t.size == 1) (.ret { v := v1 nv, cm := [.getx r.c n sc nv], dv := 1 })
    | _ => .fail

def doStore (C : Cfg) (nv : Nat) (T : Nat) (p x : AV) : Rd Out :=
  match C.ti T with
  | none => .fail
  | some t =>
    match cellsOf t x with
    | none => .fail
    | some (cs, cm) =>
      match p with
      | .at (.one (.ptr k o)) => .own k fun ow => Rd.chk ow <| row! k fun r =>
        match r.c with
        | .lst l => Rd.chk (cs.length != 0 && o + cs.length ≤ l.length) (.ret { v := .at (.one (.lit undef)), rw := [(k, some { r with c := .lst (put l o cs) })], cm })
        | .all n => match cs with
          | [c] => Rd.chk c.pure (.ret { v := .at (.one (.lit undef)), rw := [(k, some { r with c := .all nv })], cm := cm ++ [.set (.all n) o c nv], dv := 1 })
          | _ => .fail
        | _ => .fail
      | .at (.one (.ptrx k n 1)) => .own k fun ow => Rd.chk ow <| row! k fun r =>
        match cs with
        | [c] => Rd.chk (c.pure && r.c.pure) <| match r.c with
          | .lst l => .ret { v := .at (.one (.lit undef)), rw := [(k, some { r with c := .lst ((List.range l.length).map fun i => .part nv i l.length) })], cm := cm ++ [.setx r.c n 1 c nv, .isAgg nv l.length], dv := 1 }
          | .all _ => .ret { v := .at (.one (.lit undef)), rw := [(k, some { r with c := .all nv })], cm := cm ++ [.setx r.c n 1 c nv], dv := 1 }
          | _ => .fail
        | _ => .fail
      | _ => .fail

def doIndexAddr (C : Cfg) (nv : Nat) (T : Nat) (x i : AV) : Rd Out :=
  match C.ti T with
  | none => .fail
  | some t =>
    match t.k, x with
    | .arr n el, .at (.one (.ptr k o)) =>
      match C.ti el with
      | none => .fail
      | some e => match i with
        | .at (.one (.lit (.int _ j))) => Rd.chk (0 ≤ j && j < n) (.ret { v := .at (.one (.ptr k (o + j.toNat * e.size))) })
        | .at (.one (.var m)) => Rd.chk (o == 0) (.ret { v := .at (.one (.ptrx k m e.size)), cm := [.bnd m n] })
        | .at (.one a) => Rd.chk (o == 0 && a.pure) (.ret { v := .at (.one (.ptrx k nv e.size)), cm := [.cp a nv, .bnd nv n], dv := 1 })
        | _ => .fail
    | .slc el, .at (.one (.sl k)) =>
      match C.ti el with
      | none => .fail
      | some e => row! k fun r => Rd.chk (r.es == e.size && r.es != 0) <|
        match r.c, i with
        | .lst l, .at (.one (.lit (.int _ j))) => Rd.chk (0 ≤ j && (j.toNat + 1) * r.es ≤ l.length) (.ret { v := .at (.one (.ptr k (j.toNat * e.size))) })
        | .lst l, .at (.one (.var m)) => .ret { v := .at (.one (.ptrx k m e.size)), cm := [.bnd m (l.length / r.es)] }
        | .lst l, .at (.one a) => Rd.chk a.pure (.ret { v := .at (.one (.ptrx k nv e.size)), cm := [.cp a nv, .bnd nv (l.length / r.es)], dv := 1 })
        | .all n, .at (.one (.lit (.int _ j))) => Rd.chk (0 ≤ j) (.ret { v := .at (.one (.ptr k (j.toNat * e.size))), cm := [.ltlen j.toNat n r.es] })
        | .all n, .at (.one (.var m)) => .ret { v := .at (.one (.ptrx k m e.size)), cm := [.bndl m n r.es] }
        | .all n, .at (.one a) => Rd.chk a.pure (.ret { v := .at (.one (.ptrx k nv e.size)), cm := [.cp a nv, .bndl nv n r.es], dv := 1 })
        | _, _ => .fail
    | _, _ => .fail

/-- parts put into cells -/
def fillc (place : Nat → Option (Nat × TI)) (l : List A1) : List (Nat × AV) → Option (List A1 × List Cmd)
  | [] => some (l, [])
  | (i, v) :: r =>
    match place i with
    | none => none
    | some (o, t) =>
      match cellsOf t v with
      | none => none
      | some (cs, cm) =>
        if o + cs.length ≤ l.length && cs.length == t.size then
          match fillc place (put l o cs) r with
          | some (l', cm') => some (l', cm ++ cm')
          | none => none
        else none

def placeOf (C : Cfg) : TK → Nat → Option (Nat × TI)
  | .arr n el, i => match C.ti el with | some t => if i < n then some (i * t.size, t) else none | none => none
  | .str fs, i => match fs[i]? with | some (o, ty) => (C.ti ty).map fun t => (o, t) | none => none
  | _, _ => none

def opnds : List (Nat × Operand) → Rd (List (Nat × AV))
  | [] => .ret []
  | (i, x) :: r => do let v ← opnd x; let vs ← opnds r; .ret ((i, v) :: vs)
def opndl : List Operand → Rd (List AV)
  | [] => .ret []
  | x :: r => do let v ← opnd x; let vs ← opndl r; .ret (v :: vs)

def doBuild (C : Cfg) (T : Nat) (parts : List (Nat × AV)) : Rd Out :=
  match C.ti T with
  | none => .fail
  | some t => Rd.chk t.k.row <|
    match fillc (placeOf C t.k) (t.zero.map .lit) parts with
    | none => .fail
    | some (l, cm) => let e := etaAgg l; .ret { v := e.1, cm := cm ++ e.2 }

def doBuildSlice (C : Cfg) (ng : Nat) (T len : Nat) (parts : List (Nat × AV)) : Rd Out :=
  match C.ti T with
  | some { k := .slc el, .. } =>
    match C.ti el with
    | none => .fail
    | some e => Rd.chk (e.size != 0 && len ≤ 1000 && e.size ≤ 1000 && e.zero.length == e.size) <|
      match fillc (fun i => if i < len then some (i * e.size, e) else none) ((List.replicate len (e.zero.map A1.lit)).flatten) parts with
      | none => .fail
      | some (l, cm) => .ret { v := .at (.one (.sl ng)), rw := [(ng, some { c := .lst l, es := e.size, ap := some el })], wr := [(ng, true)], cm }
  | _ => .fail

/-- what is handed to a call, as data; and the rows that it leads to: these are not written any more -/
def dataOf1 (c : S1) (a : A1) : Rd (D1 × List Nat) :=
  match c, a with
  | .v, a => Rd.chk a.pure (.ret (.a a, []))
  | .s es _, .lit (.slice none 0 0) => Rd.chk (es != 0) (.ret (.rc (.lst []), []))
  | .sv es, .lit (.slice none 0 0) => Rd.chk (es != 0) (.ret (.rc (.lst []), []))
  | .s es _, .sl k => .row k fun | some r => Rd.chk (r.es == es && r.es != 0 && r.c.pure) (.ret (.rc r.c, [k])) | none => .fail
  | .sv es, .sl k => .row k fun | some r => Rd.chk (r.es == es && r.es != 0 && r.c.pure) (.ret (.rc r.c, [k])) | none => .fail
  | .ss n, .sl k => .row k fun
    | some r => match r.c with
      | .lst l => Rd.chk (r.es == 1 && l.length == n) <| (nestOf l).bind fun rs => .ret (.nest rs.1, k :: rs.2)
      | _ => .fail
    | none => .fail
  | .ss n, .lit (.slice none 0 0) => Rd.chk (n == 0) (.ret (.nest [], []))
  | _, _ => .fail
where
  nestOf : List A1 → Rd (List RC × List Nat)
    | [] => .ret ([], [])
    | .sl k :: r => .row k fun
      | some q => Rd.chk (q.es == 1 && q.c.pure) <| (nestOf r).bind fun rs => .ret (q.c :: rs.1, k :: rs.2)
      | none => .fail
    | .lit (.slice none 0 0) :: r => (nestOf r).bind fun rs => .ret (.lst [] :: rs.1, rs.2)
    | _ => .fail

def dataOfL : List S1 → List A1 → Rd (List D1 × List Nat)
  | [], [] => .ret ([], [])
  | c :: cs, a :: as => (dataOf1 c a).bind fun d => (dataOfL cs as).bind fun ds => .ret (d.1 :: ds.1, d.2 ++ ds.2)
  | _, _ => .fail

def dataOf (c : S2) (v : AV) : Rd (DE × List Nat) :=
  match c, v with
  | .one .v, .at (.agg l) => Rd.chk (l.all A1.pure) (.ret (.agg (l.map .a), []))
  | .one c, .at (.one a) => (dataOf1 c a).bind fun d => .ret (.one d.1, d.2)
  | .agg cs, .at (.agg l) => (dataOfL cs l).bind fun ds => .ret (.agg ds.1, ds.2)
  | _, _ => .fail

def dataArgs : List S2 → List AV → Rd (List DE × List Nat)
  | [], [] => .ret ([], [])
  | c :: cs, v :: vs => (dataOf c v).bind fun d => (dataArgs cs vs).bind fun ds => .ret (d.1 :: ds.1, d.2 ++ ds.2)
  | _, _ => .fail

def S1.isV : S1 → Bool
  | .v => true
  | _ => false
def S2.isV : S2 → Bool
  | .one c => c.isV
  | .agg l => l.all S1.isV
def S1.isS : S1 → Bool
  | .s .. => true
  | _ => false

/-- the result of a call: the value, the new rows. The data of the whole is variable nv; the parts' from nv + 1 on. -/
def resOf1 (c : S1) (nv ng : Nat) : Option (A1 × List (Nat × Option Row) × List (Nat × Bool)) :=
  match c with
  | .v => some (.var nv, [], [])
  | .s es el => some (.sl ng, [(ng, some { c := .all nv, es, ap := some el })], [(ng, true)])
  | .sv es => some (.sl ng, [(ng, some { c := .all nv, es, ap := none })], [])
  | .ss _ => none

def resOf (c : Sh) (nv ng : Nat) : Option Out :=
  match c with
  | .two (.one c) => (resOf1 c nv ng).map fun (a, rw, wr) => { v := .at (.one a), rw, wr, dv := 1 }
  | .tup [.one .v, .one .v] => some { v := .at (.one (.var nv)), dv := 1 }
  | .tup [.one c, .one .v] => (resOf1 c (nv + 1) ng).map fun (a, rw, wr) => { v := .tup [.one a, .one (.var (nv + 2))], rw, wr, cm := [.tupc nv 0 (nv + 1), .tupc nv 1 (nv + 2)], dv := 3 }
  | _ => none

def doCall (C : Cfg) (nv ng : Nat) (f : Nat) (args : List AV) : Rd Out :=
  match C.fn f with
  | none => .fail
  | some fs =>
    match fs.recv with
    | some _ => .fail
    | none => (dataArgs fs.args args).bind fun ds =>
      match resOf fs.res nv ng with
      | none => .fail
      | some o => .ret { o with wr := ds.2.map (fun k => (k, false)) ++ o.wr, cm := .call f fs ds.1 nv :: o.cm }

def doExtract (nv : Nat) (v : AV) (i : Nat) : Rd Out :=
  match v with
  | .tup l => match l[i]? with | some x => .ret { v := .at x } | none => .fail
  | .at (.one (.var n)) => .ret { v := v1 nv, cm := [.tupc n i nv], dv := 1 }
  | _ => .fail

def doLen (nv : Nat) (v : AV) : Rd Out :=
  match v with
  | .at (.one (.lit (.slice none 0 0))) => .ret { v := .at (.one (.lit (.int .i64 0))) }
  | .at (.one (.sl k)) => row! k fun r => Rd.chk (r.es != 0) <| match r.c with
    | .lst l => .ret { v := .at (.one (.lit (.int .i64 (l.length / r.es : Nat)))) }
    | .all n => .ret { v := v1 nv, cm := [.len n r.es nv], dv := 1 }
    | _ => .fail
  | _ => .fail

def litNat : AV → Option Nat
  | .at (.one (.lit (.int _ j))) => if 0 ≤ j then some j.toNat else none
  | _ => none

def optNat (d : Nat) : Option AV → Option Nat
  | none => some d
  | some v => litNat v

def optA1 : Option AV → Option (Option A1)
  | none => some none
  | some (.at (.one a)) => if a.pure then some (some a) else none
  | _ => none

/-- a row that is seen by a second one is written no more -/
def dropOw (k : Nat) (ow : Bool) : List (Nat × Bool) := if ow then [(k, false)] else []

def doSlice (C : Cfg) (nv ng : Nat) (T : Nat) (x : AV) (lo hi mx : Option AV) : Rd Out :=
  match C.ti T with
  | none => .fail
  | some t =>
    match t.k, x with
    | .arr n el, .at (.one (.ptr k o)) =>
      match C.ti el, optNat 0 lo, optNat n hi, optNat n mx with
      | some e, some l, some h, some m => Rd.chk (l ≤ h && h ≤ m && m ≤ n && e.size != 0 && n != 0 && (mx.isNone || hi.isSome)) <| .own k fun ow => row! k fun r =>
        match r.c with
        | .lst cs => Rd.chk (o + n * e.size ≤ cs.length) (.ret { v := .at (.one (.sl ng)), rw := [(ng, some { c := .lst ((cs.drop (o + l * e.size)).take ((h - l) * e.size)), es := e.size, ap := none })], wr := dropOw k ow })
        | _ => .fail
      | _, _, _, _ => .fail
    | .slc el, .at (.one (.sl k)) =>
      match C.ti el with
      | none => .fail
      | some e => .own k fun ow => row! k fun r => Rd.chk (r.es == e.size && r.es != 0 && mx.isNone) <|
        match r.c with
        | .lst cs =>
          match optNat 0 lo, optNat (cs.length / r.es) hi with
          | some l, some h => Rd.chk (l ≤ h && h * r.es ≤ cs.length) (.ret { v := .at (.one (.sl ng)), rw := [(ng, some { c := .lst ((cs.drop (l * e.size)).take ((h - l) * e.size)), es := e.size, ap := none })], wr := dropOw k ow })
          | _, _ => .fail
        | .all n =>
          match optA1 lo, optA1 hi with
          | some l, some h => .ret { v := .at (.one (.sl ng)), rw := [(ng, some { c := .all nv, es := e.size, ap := none })], wr := dropOw k ow, cm := [.sub (.all n) l h e.size nv], dv := 1 }
          | _, _ => .fail
        | _ => .fail
    | _, _ => .fail

def doArrPtr (C : Cfg) (T : Nat) (x : AV) : Rd Out :=
  match C.ti T, x with
  | some { k := .arr n el, .. }, .at (.one (.sl k)) =>
    match C.ti el with
    | none => .fail
    | some e => row! k fun r => Rd.chk (r.es == e.size && r.es != 0 && n != 0) <| match r.c with
      | .lst l => Rd.chk (n * e.size ≤ l.length) (.ret { v := .at (.one (.ptr k 0)) })
      | .all m => .ret { v := .at (.one (.ptr k 0)), cm := [.ltlen (n - 1) m r.es] }
      | _ => .fail
  | _, _ => .fail

def appSrc (es : Nat) (x : AV) : Rd RC :=
  match x with
  | .at (.one (.sl k)) => .row k fun
    | some r => Rd.chk (r.es == es) (.ret r.c)
    | none => .fail
  | _ => .fail

def appCat (el es nv : Nat) (p q : RC) : Option (RC × List Cmd × Nat) :=
  match p, q with
  | .lst l, .lst m => if l.length + m.length ≤ 100000 then some (.lst (l ++ m), [], 0) else none
  | p, q => if p.pure && q.pure then some (.all nv, [.app p q el es nv], 1) else none

def AV.isSl (x : AV) (k : Nat) : Bool :=
  match x with
  | .at (.one (.sl k')) => k' == k
  | _ => false

def doAppend (C : Cfg) (nv ng : Nat) (Ts : List Nat) (s x : AV) : Rd Out :=
  match Ts with
  | [T, T'] => match C.ti T, C.ti T' with
    | some { k := .slc el, .. }, some { k := .slc el', .. } =>
      match C.ti el with
      | none => .fail
      | some e => Rd.chk (T == T' && el == el' && e.size != 0 && e.zero.length == e.size && e.bytes ≤ 1024) <|
        match s with
        | .at (.one (.lit (.slice none 0 0))) => (appSrc e.size x).bind fun q =>
          match appCat el e.size nv (.lst []) q with
          | some (r, cm, dv) => .ret { v := .at (.one (.sl ng)), rw := [(ng, some { c := r, es := e.size, ap := some el })], wr := [(ng, true)], cm, dv }
          | none => .fail
        | .at (.one (.sl k)) => .own k fun ow => Rd.chk ow <| row! k fun r => Rd.chk (r.es == e.size && r.ap == some el && !x.isSl k) <| (appSrc e.size x).bind fun q =>
          match appCat el e.size nv r.c q with
          | some (c, cm, dv) => .ret { v := .at (.one (.sl ng)), rw := [(k, none), (ng, some { c, es := e.size, ap := some el })], wr := [(k, false), (ng, true)], cm, dv }
          | none => .fail
        | _ => .fail
    | _, _ => .fail
  | _ => .fail

def doPick (C : Cfg) (nv : Nat) (c a b : AV) : Rd Out :=
  match c with
  | .at (.one (.lit (.bool t))) => .ret { v := if t then a else b }
  | .at (.one (.var n)) =>
    match C.dec n with
    | some t => .ret { v := if t then a else b, cm := [.isBool n t] }
    | none => match a, b with
      | .at (.one x), .at (.one y) => Rd.chk (x.pure && y.pure) (.ret { v := v1 nv, cm := [.pick (.var n) x y nv], dv := 1 })
      | _, _ => .fail
  | _ => .fail

def small62 (i : Int) : Bool := decide (-4611686018427387904 ≤ i) && decide (i < 4611686018427387904)

/-- numbers known: what is computed of them -/
def foldI (op : BinOp) (x y : Int) : Option Value :=
  match op with
  | .add => if small62 (x + y) then some (.int .i64 (x + y)) else none
  | .sub => if small62 (x - y) then some (.int .i64 (x - y)) else none
  | .mul => if small62 (x * y) then some (.int .i64 (x * y)) else none
  | .quo => if decide (0 ≤ x) && decide (0 < y) && small62 x then some (.int .i64 (x.toNat / y.toNat : Nat)) else none
  | .rem => if decide (0 ≤ x) && decide (0 < y) then some (.int .i64 (x.toNat % y.toNat : Nat)) else none
  | .eql => some (.bool (x == y))
  | .neq => some (.bool (x != y))
  | .lss => some (.bool (decide (x < y)))
  | .leq => some (.bool (decide (x ≤ y)))
  | .gtr => some (.bool (decide (y < x)))
  | .geq => some (.bool (decide (y ≤ x)))
  | _ => none

def fold2 (op : BinOp) (a b : AV) : Option Value :=
  match a, b with
  | .at (.one (.lit (.int .i64 x))), .at (.one (.lit (.int .i64 y))) => foldI op x y
  | _, _ => none

def dOp (C : Cfg) (nv ng : Nat) : Op → Rd Out
  | .move x | .assign x => (opnd x).bind fun v => .ret { v }
  | .pick c a b => (opnd c).bind fun c => (opnd a).bind fun a => (opnd b).bind fun b => doPick C nv c a b
  | .alloc T => match C.ti T with
    | some t => .ret { v := .at (.one (.ptr ng 0)), rw := [(ng, some { c := .lst (t.zero.map .lit), es := 0, ap := none })], wr := [(ng, true)] }
    | none => .fail
  | .box T x => (opnd x).bind fun v => match C.ti T with
    | some t => match cellsOf t v with
      | some (cs, cm) => .ret { v := .at (.one (.ptr ng 0)), rw := [(ng, some { c := .lst cs, es := 0, ap := none })], wr := [(ng, true)], cm }
      | none => .fail
    | none => .fail
  | .build T ps => (opnds ps.toList).bind fun vs => doBuild C T vs
  | .buildSlice T n ps => (opnds ps.toList).bind fun vs => doBuildSlice C ng T n vs
  | .load T x => (opnd x).bind fun v => doLoad C nv T v
  | .store T p x => (opnd p).bind fun p => (opnd x).bind fun v => doStore C nv T p v
  | .nilCheck x => (opnd x).bind fun v => match v with
    | .at (.one (.ptr k o)) => .ret { v := .at (.one (.ptr k o)) }
    | _ => .fail
  | .binOp op T x y _ => (opnd x).bind fun a => (opnd y).bind fun b => match fold2 op a b with
    | some v => .ret { v := .at (.one (.lit v)) }
    | none => Rd.chk (a.pure && b.pure) (.ret { v := v1 nv, cm := [.bin op T a b nv], dv := 1 })
  | .unOp op _ x => (opnd x).bind fun a => Rd.chk a.pure (.ret { v := v1 nv, cm := [.un op a nv], dv := 1 })
  | .convert s d x => (opnd x).bind fun a => match a with
    | .at (.one (.sl k)) => match C.ti s, C.ti d with
      | some { k := .slc el, .. }, some { k := .stg, .. } => match C.ti el with
        | some { k := .u8, .. } => row! k fun r => Rd.chk (r.es == 1 && r.c.pure) (.ret { v := v1 nv, cm := [.tostr r.c nv], dv := 1 })
        | _ => .fail
      | _, _ => .fail
    | a => Rd.chk a.pure (.ret { v := v1 nv, cm := [.conv s d a nv], dv := 1 })
  | .sliceToArrayPointer T x => (opnd x).bind fun v => doArrPtr C T v
  | .makeSlice T l c => (opnd l).bind fun a => (opnd c).bind fun b => match C.ti T, a, b with
    | some { k := .slc el, .. }, .at (.one x), .at (.one y) => match C.ti el with
      | some e => match litNat a, litNat b with
        | some n, some m => Rd.chk (n == m && n ≤ 1000 && e.size != 0 && e.size ≤ 1000 && e.bytes ≤ 1024 && e.zero.length == e.size) (.ret { v := .at (.one (.sl ng)), rw := [(ng, some { c := .lst ((List.replicate n (e.zero.map A1.lit)).flatten), es := e.size, ap := some el })], wr := [(ng, true)] })
        | none, none => match x, y with
          | .var n, .var m => Rd.chk (n == m && e.size != 0 && e.bytes ≤ 1024 && e.zero.length == e.size) (.ret { v := .at (.one (.sl ng)), rw := [(ng, some { c := .all nv, es := e.size, ap := some el })], wr := [(ng, true)], cm := [.mk e.zero (.var n) e.size nv], dv := 1 })
          | _, _ => .fail
        | _, _ => .fail
      | none => .fail
    | _, _, _ => .fail
  | .slice T x lo hi mx => (opnd x).bind fun v => (oo lo).bind fun l => (oo hi).bind fun h => (oo mx).bind fun m => doSlice C nv ng T v l h m
  | .fieldAddr T x f => (opnd x).bind fun v => match C.ti T, v with
    | some { k := .str fs, .. }, .at (.one (.ptr k o)) => match fs[f]? with
      | some (d, ty) => match C.ti ty with
        | some t => Rd.chk (t.size != 0) (.ret { v := .at (.one (.ptr k (o + d))) })
        | none => .fail
      | none => .fail
    | _, _ => .fail
  | .indexAddr T x i => (opnd x).bind fun a => (opnd i).bind fun b => doIndexAddr C nv T a b
  | .index T x i => (opnd x).bind fun a => (opnd i).bind fun b => Rd.chk (a.pure && b.pure) (.ret { v := v1 nv, cm := [.ext 0 (.index T (.tmp 0) (.tmp 1)) [a, b] nv], dv := 1 })
  | .field T x f => (opnd x).bind fun a => Rd.chk a.pure (.ret { v := v1 nv, cm := [.ext 0 (.field T (.tmp 0) f) [a] nv], dv := 1 })
  | .extract x i => (opnd x).bind fun v => doExtract nv v i
  | .call { callee := .value (.func f), args, .. } => (opndl args.toList).bind fun vs => doCall C nv ng f vs
  | .call { callee := .builtin .len, args, argTypes } => (opndl args.toList).bind fun vs => match vs with
    | [.at (.one (.sl k))] => match argTypes.toList with
      | [T] => match C.ti T with | some { k := .slc _, .. } => doLen nv (.at (.one (.sl k))) | _ => .fail
      | _ => .fail
    | [.at (.one (.lit (.slice none 0 0)))] => match argTypes.toList with
      | [T] => match C.ti T with | some { k := .slc _, .. } => doLen nv (.at (.one (.lit (.slice none 0 0)))) | _ => .fail
      | _ => .fail
    | [.at (.one a)] => Rd.chk a.pure (.ret { v := v1 nv, cm := [.ext 0 (.call { callee := .builtin .len, args := #[.tmp 0], argTypes }) [.at (.one a)] nv], dv := 1 })
    | _ => .fail
  | .call { callee := .builtin .append, args, argTypes } => (opndl args.toList).bind fun vs => match vs with
    | [s, x] => doAppend C nv ng argTypes.toList s x
    | _ => .fail
  | _ => .fail
where
  oo : Option Operand → Rd (Option AV)
    | none => .ret none
    | some x => (opnd x).bind fun v => .ret (some v)

def dstOk (C : Cfg) : Option Nat → Bool
  | none => true
  | some t => t < C.N

def dOper (C : Cfg) (ops : Array Oper) (nv ng : Nat) (o : Oper) : Rd Dl :=
  Rd.chk (dstOk C o.dst) <|
  match o.guard with
  | none => (dOp C nv ng o.op).bind fun d => .ret (d.dl o.dst)
  | some (j, want) =>
    match (ops[j]?).bind (·.dst) with
    | none => .fail
    | some t => .slot t fun
      | some (.at (.one (.lit (.bool b)))) => if b == want then (dOp C nv ng o.op).bind fun d => .ret (d.dl o.dst) else .ret { dst := o.dst, v := .at (.one (.lit undef)) }
      | some (.at (.one (.lit (.tuple _)))) => .ret { dst := o.dst, v := .at (.one (.lit undef)) }
      | some (.at (.one (.var n))) =>
        match C.dec n with
        | some b => if b == want then (dOp C nv ng o.op).bind fun d => .ret { d.dl o.dst with cm := .isBool n b :: d.cm } else .ret { dst := o.dst, v := .at (.one (.lit undef)), cm := [.isBool n b] }
        | none => .fail
      | _ => .fail

structure Inf where
  d : Dl
  nv : Nat
  rd : List Loc
  deriving Inhabited

/-- a region, in the text's order -/
def rgRun (C : Cfg) (ops : Array Oper) (gb : Nat) : List Oper → Nat → St → Nat → Option (List Inf)
  | [], _, _, _ => some []
  | o :: r, i, S, nv =>
    match (dOper C ops nv (gb + 4 * i) o).val S with
    | none => none
    | some d =>
      match rgRun C ops gb r (i + 1) (S.app d) (nv + d.dv) with
      | none => none
      | some L => some ({ d, nv, rd := (dOper C ops nv (gb + 4 * i) o).reads S } :: L)
end Go.Sx

/-
  Contracts; what a command means; small laws on states and worlds.
-/
namespace Go.Sx
open Go.RowKit (Below)

/-- package-level variables that are only read -/
structure Glb where
  ng : Nat
  ok : World → Prop
  keep : ∀ w w', ok w → (∀ k, k < ng → w'.heap[k]? = w.heap[k]?) → ok w'
  sz : ∀ w, ok w → ng ≤ w.heap.size

def LenR (g : GV) (cs : List Value) (es : Nat) : Prop := es ≠ 0 ∧ cs.length = g.len * es ∧ g.len ≤ g.cap

/-- a value reads as a datum -/
def S1R (w : World) (A : Nat → Prop) : S1 → Value → Value → Prop
  | .v, v, d => v = d
  | .s es _, v, d => ∃ g cs, v = GV.slv g ∧ d = .agg cs ∧ SliceR w g cs.toList ∧ LenR g cs.toList es ∧ (g.nil = false → A g.blk)
  | .sv es, v, d => ∃ g cs, v = GV.slv g ∧ d = .agg cs ∧ SliceR w g cs.toList ∧ LenR g cs.toList es ∧ (g.nil = false → A g.blk)
  | .ss n, v, d => ∃ g, ∃ gs : List (GV × Array Value), v = GV.slv g ∧ gs.length = n ∧ SliceR w g (gs.map fun x => x.1.slv) ∧ LenR g (gs.map fun x => x.1.slv) 1 ∧ (g.nil = false → A g.blk) ∧
      d = .agg (gs.map fun x => Value.agg x.2).toArray ∧ ∀ x ∈ gs, SliceR w x.1 x.2.toList ∧ LenR x.1 x.2.toList 1 ∧ (x.1.nil = false → A x.1.blk)

def S1sR (w : World) (A : Nat → Prop) : List S1 → List Value → List Value → Prop
  | [], [], [] => True
  | c :: cs, v :: vs, d :: ds => S1R w A c v d ∧ S1sR w A cs vs ds
  | _, _, _ => False

def S2R (w : World) (A : Nat → Prop) : S2 → Value → Value → Prop
  | .one c, v, d => S1R w A c v d
  | .agg l, v, d => ∃ vs ds, v = .agg vs ∧ d = .agg ds ∧ S1sR w A l vs.toList ds.toList

def ArgsR (w : World) (A : Nat → Prop) : List S2 → List Value → List Value → Prop
  | [], [], [] => True
  | c :: cs, v :: vs, d :: ds => S2R w A c v d ∧ ArgsR w A cs vs ds
  | _, _, _ => False

/-- a result -/
def Res1 (ng : Nat) (w w' : World) (A : Nat → Prop) : S1 → Value → Value → Prop
  | .v, v, d => v = d
  | .s es el, v, d => ∃ g cs, v = GV.slv g ∧ d = .agg cs ∧ SliceR w' g cs.toList ∧ LenR g cs.toList es ∧ w'.ownsRow w.heap.size el es g.slv g.len cs.toList
  | .sv es, v, d => ∃ g cs, v = GV.slv g ∧ d = .agg cs ∧ SliceR w' g cs.toList ∧ LenR g cs.toList es ∧ (g.nil = false → A g.blk ∨ w.heap.size ≤ g.blk ∨ g.blk < ng)
  | .ss _, _, _ => False

def ResR (ng : Nat) (w w' : World) (A : Nat → Prop) : Sh → Value → Value → Prop
  | .two (.one c), v, d => Res1 ng w w' A c v d
  | .two (.agg _), _, _ => False
  | .tup [.one .v, .one .v], v, d => v = d
  | .tup [.one c, .one .v], v, d => ∃ v1 d1 x, v = .tuple #[v1, x] ∧ d = .tuple #[d1, x] ∧ Res1 ng w w' A c v1 d1
  | .tup _, _, _ => False

/-- a call of function f comes to a value -/
def Invk (P : Program) (f : Nat) (args : Array Value) (w : World) (R : Value → World → Prop) : Prop :=
  (∃ v w', (callFunc f args).run P w = .ok (.value v) w' ∧ R v w') ∨
  ((callFunc f args).run P w = .ok (.enter f args) w ∧ Calls P f args w fun e w' => ∃ v, e = .returned v ∧ R v w')

theorem Invk.mono {P f args w} {R R' : Value → World → Prop} (h : Invk P f args w R) (hr : ∀ v w', R v w' → R' v w') : Invk P f args w R' := by
  rcases h with ⟨v, w', h1, h2⟩ | ⟨h1, h2⟩
  · exact .inl ⟨v, w', h1, hr _ _ h2⟩
  · refine .inr ⟨h1, h2.mono ?_⟩
    rintro e w' ⟨v, rfl, h3⟩
    exact ⟨v, rfl, hr _ _ h3⟩

/-- WHAT A FUNCTION COMPUTES: handed values that read as data, it hands back a value that reads as the datum that Φ gives them; what was there stays. -/
def Ctr (P : Program) (G : Glb) (f : Nat) (fs : FS) (Φ : List Value → Value → Prop) : Prop :=
  ∀ (w : World) (A : Nat → Prop) (vs ds : List Value) (r : Value), G.ok w → ArgsR w A fs.args vs ds → Φ ds r →
    Invk P f vs.toArray w fun v w' => ResR G.ng w w' A fs.res v r ∧ Below w.heap.size w w'

def int? : Value → Option Int | .int _ i => some i | _ => none

def argEval (vs : List Value) : Operand → Value
  | .tmp t => vs.getD t undef
  | .const v => v
  | .global g => .pointer (some ⟨g, 0, none⟩)
  | .func f => .func (.func f) #[] #[]

def bytesV (l : List UInt8) : List Value := l.map fun b => .int .u8 b.toNat

def Cmd.holds (P : Program) (G : Glb) (ρ : Nat → Value) : Cmd → Prop
  | .isAgg n k => ∃ cs : Array Value, ρ n = .agg cs ∧ cs.size = k ∧ ∀ c ∈ cs.toList, c.oneCell' = true
  | .isOne a => (a.den ρ).oneCell' = true
  | .isBool n b => ρ n = .bool b
  | .bnd n m => ∃ k i, ρ n = .int k i ∧ 0 ≤ i ∧ i < m
  | .bndl n m es => ∃ k i, ρ n = .int k i ∧ 0 ≤ i ∧ (i.toNat + 1) * es ≤ (ρ m).cells.size
  | .ltlen j n es => (j + 1) * es ≤ (ρ n).cells.size
  | .cp a v => ρ v = a.den ρ
  | .bin op T a b v => a.den ρ ≠ .nilIface ∧ ∀ w, (do eqGuard op T (.tmp 0) (.tmp 0) (a.den ρ) (b.den ρ); binOp op T (a.den ρ) (b.den ρ)).run P w = .ok (ρ v) w
  | .un op a v => ∀ w, (Op.unary op (a.den ρ)).run P w = .ok (ρ v) w
  | .conv s d a v => ∀ w, (convert s d (a.den ρ)).run P w = .ok (ρ v) w
  | .tupc n i v => ∃ vs : Array Value, ρ n = .tuple vs ∧ vs[i]? = some (ρ v)
  | .get r i v => (r.cden ρ)[i]? = some (ρ v)
  | .geta r i sz v => i + sz ≤ (r.cden ρ).length ∧ ρ v = .agg (((r.cden ρ).drop i).take sz).toArray
  | .getx r n sc v => (r.cden ρ)[toN (ρ n) * sc]? = some (ρ v)
  | .getxa r n sc sz v => toN (ρ n) * sc + sz ≤ (r.cden ρ).length ∧ ρ v = .agg (((r.cden ρ).drop (toN (ρ n) * sc)).take sz).toArray
  | .set r i a v => i < (r.cden ρ).length ∧ ρ v = .agg ((r.cden ρ).set i (a.den ρ)).toArray
  | .setx r n sc a v => toN (ρ n) * sc < (r.cden ρ).length ∧ ρ v = .agg ((r.cden ρ).set (toN (ρ n) * sc) (a.den ρ)).toArray
  | .len n es v => ∃ k : Nat, (ρ n).cells.size = k * es ∧ ρ v = .int .i64 k
  | .sub r lo hi es v => ∃ l h k : Nat, (r.cden ρ).length = k * es ∧ l ≤ h ∧ h ≤ k ∧ (match lo with | none => l = 0 | some a => int? (a.den ρ) = some (l : Int)) ∧
      (match hi with | none => h = k | some a => int? (a.den ρ) = some (h : Int)) ∧ ρ v = .agg (((r.cden ρ).drop (l * es)).take ((h - l) * es)).toArray
  | .app r q _ _ v => (r.cden ρ).length + (q.cden ρ).length ≤ 100000 ∧ ρ v = .agg (r.cden ρ ++ q.cden ρ).toArray
  | .pick c a b v => ∃ t, c.den ρ = .bool t ∧ ρ v = if t then a.den ρ else b.den ρ
  | .call f fs args v => ∃ Φ, Ctr P G f fs Φ ∧ Φ (args.map (DE.den ρ)) (ρ v)
  | .callm .. => False
  | .tostr r v => ∃ l : List UInt8, r.cden ρ = bytesV l ∧ ρ v = .string ⟨l.toArray⟩
  | .mk z l _ v => ∃ n : Nat, l.den ρ = .int .i64 n ∧ n ≤ 100000 ∧ ρ v = .agg (List.replicate n z).flatten.toArray
  | .ext _ o args v => ∀ w, (execOp (argEval (args.map (AV.den ρ))) { dst := none, op := o, type := 0, pos := "", after := #[], guard := none }).run P w = .ok (.value (ρ v)) w

/-- what the executor takes for a type is the program's -/
def TIok (P : Program) (ti : Nat → Option TI) : Prop :=
  ∀ t i, ti t = some i → ∃ info z, P.info? t = some info ∧ info.size = i.size ∧ info.bytes = i.bytes ∧ info.zero = some z ∧ z.cells.toList = i.zero ∧ i.zero.length = i.size ∧ (∀ c ∈ i.zero, c.oneCell' = true) ∧
    (match i.k with
      | .sc => ∃ d, P.underlying t = some d ∧ d.isRow = false ∧ (∀ e, d ≠ .slice e)
      | .u8 => P.underlying t = some (.int .u8)
      | .stg => P.underlying t = some .string
      | .arr n el => P.underlying t = some (.array n el) ∧ i.size ≠ 0 ∧ (ti el).isSome = true
      | .str fs => ∃ fields : Array Field, P.underlying t = some (.struct fields) ∧ fields.toList.map (fun f => (f.offset, f.type)) = fs ∧ i.size ≠ 0 ∧ ∀ x ∈ fs, (ti x.2).isSome = true
      | .slc el => P.underlying t = some (.slice el) ∧ i.size = 1) ∧
    (i.k.row = true → z = .agg i.zero.toArray)

theorem Rd.opt_val {S : St} {α : Type} {o : Option α} {a : α} (h : (Rd.opt o).val S = some a) : o = some a := by
  cases o with
  | none => cases h
  | some b => exact h
theorem Rd.chk_val {S : St} {α : Type} {b : Bool} {m : Rd α} {a : α} (h : (Rd.chk b m).val S = some a) : b = true ∧ m.val S = some a := by
  cases b with
  | false => cases h
  | true => exact ⟨rfl, h⟩
theorem Rd.bind_val {S : St} {α β : Type} {m : Rd α} {f : α → Rd β} {b : β} (h : (m.bind f).val S = some b) : ∃ a, m.val S = some a ∧ (f a).val S = some b :=
  Rd.val_bind_some (m := m) (f := f) h

theorem opnd_val {w0 M N S σ ρ a w} (hg : Gam w0 M N S σ ρ a w) {x : Operand} {v : AV} (h : (opnd x).val S = some v) : a.eval x = v.conc σ ρ ∧ v.ok σ ρ := by
  cases x with
  | tmp t =>
    have h1 : S.slot t = some v := Rd.opt_val (S := S) h
    obtain ⟨h2, h3⟩ := hg.slot t v h1
    refine ⟨?_, h3⟩
    simp only [Act.eval, Array.getD_eq_getD_getElem?, h2, Option.getD_some]
  | const c => cases h; exact ⟨rfl, trivial⟩
  | «global» g =>
    obtain ⟨h1, h2⟩ := Rd.chk_val h
    cases h2
    have := hg.glob g (by simpa using h1)
    refine ⟨?_, trivial⟩
    simp only [Act.eval, AV.conc, AT.conc, A1.conc, this.1, this.2]
  | func f => cases h; exact ⟨rfl, trivial⟩

/-- the ghosts that an operand names are the state's -/
theorem opnd_ment {S : St} {x : Operand} {v : AV} (h : (opnd x).val S = some v) : ∀ k ∈ v.gh, S.ment k ∨ k < 10000 := by
  intro k hk
  cases x with
  | tmp t => exact .inl (.inl ⟨t, v, Rd.opt_val (S := S) h, hk⟩)
  | const c => cases h; simp [AV.gh, AT.gh, A1.gh] at hk
  | «global» g =>
    obtain ⟨h1, h2⟩ := Rd.chk_val h
    cases h2
    simp [AV.gh, AT.gh, A1.gh] at hk
    right; simpa [hk] using h1
  | func f => cases h; simp [AV.gh, AT.gh, A1.gh] at hk

/-! ### worlds -/
/-- what was there is as it was -/
structure Ext (w w' : World) : Prop where
  os : w'.os = w.os
  tape : w'.tape = w.tape
  output : w'.output = w.output
  size : w.heap.size ≤ w'.heap.size
  block : ∀ k, k < w.heap.size → w'.heap[k]? = w.heap[k]?

theorem Ext.refl (w : World) : Ext w w := ⟨rfl, rfl, rfl, Nat.le_refl _, fun _ _ => rfl⟩
theorem Ext.drew (w : World) : Ext w w.drew := ⟨rfl, rfl, rfl, Nat.le_refl _, fun _ _ => rfl⟩
theorem Ext.alloc (w : World) (o : Obj) : Ext w (w.alloc o) := ⟨rfl, rfl, rfl, by simp, fun k hk => heap_alloc_old w o k hk⟩
theorem Ext.of_below {w w' : World} (h : Below w.heap.size w w') : Ext w w' := ⟨h.os, h.tape, h.output, h.size, h.block⟩
theorem Ext.of_grown {w w' : World} {row : Option Nat} (h : w.grownBy w' row) (hr : row = none) : Ext w w' := ⟨h.os, h.tape, h.output, h.size, fun k hk => h.block k hk (by rw [hr]; simp)⟩
theorem Ext.cell {w w' : World} (h : Ext w w') {p : Addr} (hp : p.block < w.heap.size) : w'.cell? p = w.cell? p := World.cell?_of_block (w := w) (h.block p.block hp)
theorem Ext.frozen {w w' : World} (h : Ext w w') {p : Addr} (hp : p.block < w.heap.size) : w'.frozen? p = w.frozen? p := World.frozen?_of_block (w := w) (h.block p.block hp)

theorem Frm.refl (w : World) (M) : Frm w w M := ⟨rfl, rfl, rfl, Nat.le_refl _, fun _ _ _ => rfl⟩
theorem Frm.ext {w0 w w' : World} {M} (h : Frm w0 w M) (e : Ext w w') : Frm w0 w' M :=
  ⟨e.os.trans h.os, e.tape.trans h.tape, e.output.trans h.output, Nat.le_trans h.size e.size, fun k hk hM => (e.block k (Nat.lt_of_lt_of_le hk h.size)).trans (h.block k hk hM)⟩
theorem Frm.below {w0 w : World} {M} (h : Frm w0 w M) (hM : ∀ k, ¬ M k) : Below w0.heap.size w0 w := ⟨h.os, h.tape, h.output, h.size, fun k hk => h.block k hk (hM k)⟩

theorem SliceR.ext {w w' : World} {g cs} (h : SliceR w g cs) (e : Ext w w') : SliceR w' g cs where
  nil := h.nil
  live hn := Nat.lt_of_lt_of_le (h.live hn) e.size
  at_ hn j v hv := by rw [e.cell (h.live hn)]; exact h.at_ hn j v hv
  one := h.one

theorem ownsRow_blk {w : World} {b e size v n xs} (h : w.ownsRow b e size v n xs) : ∀ k, v.ownBlock = some k → b ≤ k ∧ k < w.heap.size := World.ownsRow.lt h

theorem ownsRow_ext {w w' : World} {b el size v n xs} (h : w.ownsRow b el size v n xs) (e : Ext w w') : w'.ownsRow b el size v n xs := by
  refine World.ownsRow.kept (row := none) h ⟨e.os, e.tape, e.output, e.size, fun k hk _ => e.block k hk⟩ ?_
  cases hv : v.ownBlock with
  | none => exact .inl rfl
  | some k => exact .inr (by simp)

theorem RowOK.ext {b0 σ ρ w w' k r} (h : RowOK b0 σ ρ w k r) (e : Ext w w') : RowOK b0 σ ρ w' k r :=
  ⟨h.rd.ext e, h.len, fun el he => ⟨(h.app el he).1, ownsRow_ext (h.app el he).2 e⟩⟩

theorem RowOK.congr {b0 σ σ' ρ w k r} (h : RowOK b0 σ ρ w k r) (h1 : σ' k = σ k) (h2 : ∀ k ∈ r.c.gh, σ' k = σ k) : RowOK b0 σ' ρ w k r := by
  have e := RC.cont_congr (ρ := ρ) h2
  exact ⟨by rw [h1, e]; exact h.rd, by rw [h1, e]; exact h.len, by rw [h1, e]; exact h.app⟩

theorem there_ext {w w' : World} {b o n} (h : w.there b o n) (hb : b < w.heap.size) (e : Ext w w') : w'.there b o n := fun j hj => by
  rw [e.cell (p := ⟨b, o + j, none⟩) hb, e.frozen (p := ⟨b, o + j, none⟩) hb]; exact h j hj

/-! ### steps of the state -/
theorem app_slot {S : St} {d : Dl} {t : Nat} {v : AV} (h : (S.app d).slot t = some v) : (d.dst = some t ∧ v = d.v) ∨ (d.dst ≠ some t ∧ S.slot t = some v) := by
  simp only [St.slot, St.app, lk_append] at h
  cases hd : d.dst with
  | none => rw [hd] at h; simp [lk] at h; exact .inr ⟨by simp, h⟩
  | some u =>
    rw [hd] at h
    simp only [lk] at h
    split at h
    · rename_i e; subst e; simp at h; exact .inl ⟨rfl, h.symm⟩
    · rename_i e; simp at h; exact .inr ⟨by simpa using e, h⟩

theorem put_get {a : Act} {dst : Option Nat} {v : Value} {t : Nat} (h : dst ≠ some t) : (a.put dst v).tmps[t]? = a.tmps[t]? := by
  cases dst with
  | none => rfl
  | some u => simp only [Act.put, Array.getElem?_setIfInBounds]; rw [if_neg (fun e => h (by rw [e]))]
theorem put_size {a : Act} {dst : Option Nat} {v : Value} : (a.put dst v).tmps.size = a.tmps.size := by
  cases dst <;> simp [Act.put]
theorem put_defers {a : Act} {dst : Option Nat} {v : Value} : (a.put dst v).defers = a.defers := by
  cases dst <;> rfl

/-- the slots behind a step -/
theorem slots_step {w0 M N S σ ρ a w} (hg : Gam w0 M N S σ ρ a w) {d : Dl} {σ' : Nat → GV} (hσ : ∀ k, S.ment k → σ' k = σ k) (hd : ∀ t, d.dst = some t → t < N) (hv : d.v.ok σ' ρ) :
    ∀ t v, (S.app d).slot t = some v → (a.put d.dst (d.v.conc σ' ρ)).tmps[t]? = some (v.conc σ' ρ) ∧ v.ok σ' ρ := by
  intro t v h
  rcases app_slot h with ⟨h1, rfl⟩ | ⟨h1, h2⟩
  · refine ⟨?_, hv⟩
    rw [h1] at hd ⊢
    simp only [Act.put, Array.getElem?_setIfInBounds]
    rw [if_pos trivial, if_pos (by rw [hg.size]; exact hd t rfl)]
  · obtain ⟨h3, h4⟩ := hg.slot t v h2
    have hc : ∀ k ∈ v.gh, σ' k = σ k := fun k hk => hσ k (.inl ⟨t, v, h2, hk⟩)
    exact ⟨by rw [put_get h1, h3, AV.conc_congr hc], AV.ok_congr hc h4⟩

/-- a step that leaves memory as it is -/
theorem Gam.pure_step {w0 M N S σ ρ a w} (hg : Gam w0 M N S σ ρ a w) {d : Dl} (hrw : d.rw = []) (hwr : d.wr = []) (hd : ∀ t, d.dst = some t → t < N) (hv : d.v.ok σ ρ) :
    Gam w0 M N (S.app d) σ ρ (a.put d.dst (d.v.conc σ ρ)) w := by
  have hrow : ∀ k, (S.app d).row k = S.row k := fun k => by simp [St.row, St.app, hrw]
  have hown : ∀ k, (S.app d).own k = S.own k := fun k => by simp [St.own, St.app, hwr]
  exact {
    defers := by rw [put_defers]; exact hg.defers
    size := by rw [put_size]; exact hg.size
    slot := slots_step hg (fun _ _ => rfl) hd hv
    row := fun k r h => hg.row k r (by rw [← hrow]; exact h)
    own := fun k h => by
      obtain ⟨r, h1, h2⟩ := hg.own k (by rw [← hown]; exact h)
      refine ⟨r, by rw [hrow]; exact h1, fun hn => ?_⟩
      obtain ⟨h3, h4, h5⟩ := h2 hn
      exact ⟨h3, h4, fun k' r' hne hr' => h5 k' r' hne (by rw [← hrow]; exact hr')⟩
    glob := hg.glob
    src := fun k r h => hg.src k r (by rw [← hrow]; exact h)
    frm := hg.frm }
end Go.Sx

/-
  Each operation's step is sound: memory.
-/
namespace Go.Sx

def upd (σ : Nat → GV) (k : Nat) (g : GV) : Nat → GV := fun j => if j = k then g else σ j
theorem upd_self (σ k g) : upd σ k g k = g := if_pos rfl
theorem upd_ne {σ k g j} (h : j ≠ k) : upd σ k g j = σ j := if_neg h

/-- the step of one operation -/
def Stp (P : Program) (o : Oper) (a : Act) (w : World) (R : Act → World → Prop) : Prop :=
  ∀ (K : Act → World → Prop) (Q : Exit → Act → World → Prop), (∀ a' w', R a' w' → K a' w') → o.wp P a w K Q

theorem Stp.value {P o a w R} {v : Value} {w' : World} (h : (execOp a.eval o).run P w = .ok (.value v) w') (hr : R (a.put o.dst v) w') : Stp P o a w R := by
  intro K Q hk
  unfold Oper.wp
  rw [h]
  exact hk _ _ hr
theorem Stp.skip {P o a w R} {w' : World} (h : (execOp a.eval o).run P w = .ok .skip w') (hr : R (a.put o.dst undef) w') : Stp P o a w R := by
  intro K Q hk
  unfold Oper.wp
  rw [h]
  exact hk _ _ hr
theorem Stp.call {P o a w R} {f : FuncId} {args : Array Value} {w' : World} (h : (execOp a.eval o).run P w = .ok (.enter f args) w')
    (hr : Calls P f args w' fun e w'' => ∃ v, e = .returned v ∧ R (a.put o.dst v) w'') : Stp P o a w R := by
  intro K Q hk
  unfold Oper.wp
  rw [h]
  refine hr.mono ?_
  rintro e w'' ⟨v, rfl, h2⟩
  exact hk _ _ h2

section
variable {P : Program} {G : Glb} {C : Cfg} {w0 : World} {M : Ms} {N : Nat} {S : St} {σ : Nat → GV} {ρ : Nat → Value} {a : Act} {w : World}

/-- a new row -/
theorem Gam.add_row (hg : Gam w0 M N S σ ρ a w) {d : Dl} {ng : Nat} {gv : GV} {r : Row} {w' : World} (hfresh : ¬ S.ment ng) (hng : 10000 ≤ ng)
    (hrw : d.rw = [(ng, some r)]) (hwr : ∀ k b, (k, b) ∈ d.wr → b = true → k = ng) (hdst : ∀ t, d.dst = some t → t < N) (he : Ext w w')
    (hrow : RowOK w0.heap.size (upd σ ng gv) ρ w' ng r)
    (hown : (S.app d).own ng = true → gv.nil = false → w'.there gv.blk gv.off (r.c.cont (upd σ ng gv) ρ).length ∧ w.heap.size ≤ gv.blk)
    (hdis : gv.nil = false → ∀ k', (S.app d).own k' = true → k' ≠ ng → (σ k').nil = false → gv.blk ≠ (σ k').blk)
    (hsrc : gv.nil = false → M.a gv.blk ∨ w0.heap.size ≤ gv.blk) (hv : d.v.ok (upd σ ng gv) ρ) :
    Gam w0 M N (S.app d) (upd σ ng gv) ρ (a.put d.dst (d.v.conc (upd σ ng gv) ρ)) w' := by
  have hσ : ∀ k, S.ment k → upd σ ng gv k = σ k := fun k hk => upd_ne (fun e => hfresh (e ▸ hk))
  have hr1 : (S.app d).row ng = some r := by simp [St.row, St.app, hrw, lk]
  have hr2 : ∀ k, k ≠ ng → (S.app d).row k = S.row k := fun k hk => by
    simp only [St.row, St.app, hrw, List.cons_append, List.nil_append, lk]
    rw [if_neg (fun e => hk e.symm)]
  have ho2 : ∀ k, k ≠ ng → (S.app d).own k = true → S.own k = true := fun k hk h => by
    simp only [St.own, St.app, lk_append] at h
    cases hl : lk d.wr k with
    | none => rw [hl] at h; simpa [St.own] using h
    | some b =>
      rw [hl] at h
      simp at h
      exact absurd (hwr k b (lk_some_mem hl) h) hk
  exact {
    defers := by rw [put_defers]; exact hg.defers
    size := by rw [put_size]; exact hg.size
    slot := slots_step hg hσ hdst hv
    row := fun k q h => by
      by_cases hk : k = ng
      · subst hk; rw [hr1] at h; cases h; exact hrow
      · rw [hr2 k hk] at h
        exact ((hg.row k q h).ext he).congr (hσ k (.inr (.inl ⟨k, q, h, .inl rfl⟩))) fun k' hk' => hσ k' (.inr (.inl ⟨k, q, h, .inr hk'⟩))
    own := fun k h => by
      by_cases hk : k = ng
      · subst hk
        refine ⟨r, hr1, fun hn => ?_⟩
        rw [upd_self] at hn ⊢
        obtain ⟨h1, h2⟩ := hown h hn
        refine ⟨h1, .inl (Nat.le_trans hg.frm.size h2), fun k' r' hne hr' hn' => ?_⟩
        rw [upd_ne hne] at hn' ⊢
        rw [hr2 k' hne] at hr'
        have := (hg.row k' r' hr').rd.live hn'
        omega
      · obtain ⟨q, hq, h2⟩ := hg.own k (ho2 k hk h)
        have e1 : upd σ ng gv k = σ k := upd_ne hk
        have e2 : q.c.cont (upd σ ng gv) ρ = q.c.cont σ ρ := RC.cont_congr fun k' hk' => hσ k' (.inr (.inl ⟨k, q, hq, .inr hk'⟩))
        refine ⟨q, by rw [hr2 k hk]; exact hq, fun hn => ?_⟩
        rw [e1] at hn ⊢
        rw [e2]
        obtain ⟨h3, h4, h5⟩ := h2 hn
        refine ⟨there_ext h3 ((hg.row k q hq).rd.live hn) he, h4, fun k' r' hne hr' hn' => ?_⟩
        by_cases hk' : k' = ng
        · subst hk'
          rw [upd_self] at hn' ⊢
          exact hdis hn' k h hk hn
        · rw [upd_ne hk'] at hn' ⊢
          rw [hr2 k' hk'] at hr'
          exact h5 k' r' hne hr' hn'
    glob := fun g hg' => by rw [upd_ne (by omega)]; exact hg.glob g hg'
    src := fun k q h hn => by
      by_cases hk : k = ng
      · subst hk; rw [upd_self] at hn ⊢; exact hsrc hn
      · rw [upd_ne hk] at hn ⊢; rw [hr2 k hk] at h; exact hg.src k q h hn
    frm := hg.frm.ext he }

/-- a new block of cells, exactly these -/
theorem new_block {w1 : World} {cs : List Value} {T : TypeId} : (w1.alloc (.cells cs.toArray T)).rangeAt w1.heap.size 0 cs ∧ (w1.alloc (.cells cs.toArray T)).there w1.heap.size 0 cs.length := by
  have hb : (w1.alloc (.cells cs.toArray T)).heap[w1.heap.size]? = some (.cells cs.toArray T (0, 0)) := heap_alloc_new w1 _
  refine ⟨fun j v hv => ?_, fun j hj => ⟨?_, ?_⟩⟩
  · rw [cell_of_row _ _ _ _ _ _ hb]; simpa using hv
  · rw [cell_of_row _ _ _ _ _ _ hb]; simp [hj]
  · exact frozen_of_row _ _ _ _ _ hb

/-- the operations that make one block and hand back its address -/
theorem Gam.new_var (hg : Gam w0 M N S σ ρ a w) {dst : Option Nat} {ng : Nat} {cs : List A1} {T : TypeId} (hfresh : ¬ S.ment ng) (hng : 10000 ≤ ng) (hdst : ∀ t, dst = some t → t < N)
    (hgh : ∀ k ∈ cs.flatMap A1.gh, S.ment k ∨ k < 10000) (hone : ∀ c ∈ cs, (c.conc σ ρ).oneCell' = true) (cm : List Cmd) :
    ∃ σ', Gam w0 M N (S.app (({ v := .at (.one (.ptr ng 0)), rw := [(ng, some { c := .lst cs, es := 0, ap := none })], wr := [(ng, true)], cm } : Out).dl dst)) σ' ρ
      (a.put dst (.pointer (some ⟨w.heap.size, 0, none⟩))) (w.alloc (.cells (cs.map (A1.conc σ ρ)).toArray T)) := by
  have hne : ∀ k ∈ cs.flatMap A1.gh, k ≠ ng := fun k hk e => by
    rcases hgh k hk with h | h
    · exact hfresh (e ▸ h)
    · omega
  refine ⟨upd σ ng ⟨w.heap.size, 0, 0, 0, false⟩, ?_⟩
  have ec : (RC.lst cs).cont (upd σ ng ⟨w.heap.size, 0, 0, 0, false⟩) ρ = cs.map (A1.conc σ ρ) := map_conc_congr fun k hk => upd_ne (hne k hk)
  obtain ⟨hb1, hb2⟩ := new_block (w1 := w) (cs := cs.map (A1.conc σ ρ)) (T := T)
  have hrow : RowOK w0.heap.size (upd σ ng ⟨w.heap.size, 0, 0, 0, false⟩) ρ (w.alloc (.cells (cs.map (A1.conc σ ρ)).toArray T)) ng { c := .lst cs, es := 0, ap := none } := by
    refine ⟨⟨?_, ?_, ?_, ?_⟩, fun h => absurd rfl h, fun e h => by cases h⟩
    · intro h; rw [upd_self] at h; cases h
    · intro _; rw [upd_self]; simp
    · intro _
      show World.rangeAt _ _ _ ((RC.lst cs).cont (upd σ ng ⟨w.heap.size, 0, 0, 0, false⟩) ρ)
      rw [upd_self, ec]; exact hb1
    · intro c hc
      have hc' : c ∈ cs.map (A1.conc σ ρ) := by rw [← ec]; exact hc
      obtain ⟨c0, h0, rfl⟩ := List.mem_map.1 hc'
      exact hone c0 h0
  have := hg.add_row (d := ({ v := .at (.one (.ptr ng 0)), rw := [(ng, some { c := .lst cs, es := 0, ap := none })], wr := [(ng, true)], cm } : Out).dl dst)
    (gv := ⟨w.heap.size, 0, 0, 0, false⟩) (w' := w.alloc (.cells (cs.map (A1.conc σ ρ)).toArray T)) hfresh hng rfl
    (fun k b h hb => by simp [Out.dl] at h; exact h.1) hdst (Ext.alloc _ _) hrow
    (fun _ _ => by
      refine ⟨?_, Nat.le_refl _⟩
      show World.there _ _ _ ((RC.lst cs).cont (upd σ ng ⟨w.heap.size, 0, 0, 0, false⟩) ρ).length
      rw [ec]; exact hb2)
    (fun _ k' hk' hne' hn' => by
      have ho : S.own k' = true := by
        simp only [St.own, St.app, Out.dl, List.cons_append, List.nil_append, lk] at hk'
        rw [if_neg (fun e => hne' e.symm)] at hk'
        exact hk'
      obtain ⟨q, hq, _⟩ := hg.own k' ho
      have := (hg.row k' q hq).rd.live hn'
      show w.heap.size ≠ _
      omega) (fun _ => .inr hg.frm.size) trivial
  have hcv : (({ v := .at (.one (.ptr ng 0)), rw := [(ng, some { c := .lst cs, es := 0, ap := none })], wr := [(ng, true)], cm } : Out).dl dst).v.conc (upd σ ng ⟨w.heap.size, 0, 0, 0, false⟩) ρ = .pointer (some ⟨w.heap.size, 0, none⟩) := by
    simp [Out.dl, AV.conc, AT.conc, A1.conc, upd_self]
  rw [hcv] at this
  exact this

/-! ### moves -/
theorem sound_move (hg : Gam w0 M N S σ ρ a w) {o : Oper} {x : Operand} (ho : o.op = .move x ∨ o.op = .assign x) {v : AV} (hx : (opnd x).val S = some v) (hdst : ∀ t, o.dst = some t → t < N) (cm : List Cmd) (dv : Nat) :
    Stp P o a w fun a' w' => ∃ σ', Gam w0 M N (S.app (({ v, cm, dv } : Out).dl o.dst)) σ' ρ a' w' := by
  obtain ⟨h1, h2⟩ := opnd_val hg hx
  refine .value (v := a.eval x) (w' := w) ?_ ⟨σ, ?_⟩
  · rcases ho with ho | ho <;> simp [execOp, ho]
  · rw [h1]
    exact hg.pure_step (d := ({ v, cm, dv } : Out).dl o.dst) rfl rfl hdst h2

/-- any operation that hands back a value and leaves memory as it is -/
theorem sound_pure (hg : Gam w0 M N S σ ρ a w) {o : Oper} {v : AV} (hr : (execOp a.eval o).run P w = .ok (.value (v.conc σ ρ)) w) (hok : v.ok σ ρ) (hdst : ∀ t, o.dst = some t → t < N) (cm : List Cmd) (dv : Nat) :
    Stp P o a w fun a' w' => ∃ σ', Gam w0 M N (S.app (({ v, cm, dv } : Out).dl o.dst)) σ' ρ a' w' :=
  .value hr ⟨σ, hg.pure_step (d := ({ v, cm, dv } : Out).dl o.dst) rfl rfl hdst hok⟩

theorem ti_zero {ti} (hti : TIok P ti) {t i} (h : ti t = some i) : ∃ z, (∀ w, (zeroValue t).run P w = .ok z w) ∧ z.cells.toList = i.zero := by
  obtain ⟨info, z, h1, _, _, h4, h5, _⟩ := hti t i h
  refine ⟨z, fun w => ?_, h5⟩
  simp [zeroValue, typeInfo, h1, h4]
theorem ti_size {ti} (hti : TIok P ti) {t i} (h : ti t = some i) : ∀ w, (sizeOf t).run P w = .ok i.size w := by
  obtain ⟨info, z, h1, h2, _⟩ := hti t i h
  intro w
  simp [sizeOf, typeInfo, h1, h2]

theorem sound_alloc (hti : TIok P C.ti) (hg : Gam w0 M N S σ ρ a w) {o : Oper} {T : TypeId} (ho : o.op = .alloc T) {t : TI} (ht : C.ti T = some t) {ng : Nat} (hfresh : ¬ S.ment ng) (hng : 10000 ≤ ng)
    (hdst : ∀ t, o.dst = some t → t < N) :
    Stp P o a w fun a' w' => ∃ σ', Gam w0 M N (S.app (({ v := .at (.one (.ptr ng 0)), rw := [(ng, some { c := .lst (t.zero.map .lit), es := 0, ap := none })], wr := [(ng, true)] } : Out).dl o.dst)) σ' ρ a' w' := by
  obtain ⟨z, hz, hzc⟩ := ti_zero hti ht
  obtain ⟨info, z', h1, h2, _, h4, h5, h6, h7, _⟩ := hti T t ht
  have hm : (t.zero.map A1.lit).map (A1.conc σ ρ) = t.zero := by simp [List.map_map, Function.comp_def, A1.conc]
  have := hg.new_var (dst := o.dst) (ng := ng) (cs := t.zero.map .lit) (T := T) hfresh hng hdst (fun k hk => by simp [List.flatMap_map, A1.gh] at hk) (fun c hc => by
    obtain ⟨v, hv, rfl⟩ := List.mem_map.1 hc
    exact h7 v hv) []
  rw [hm] at this
  refine .value (v := .pointer (some ⟨w.heap.size, 0, none⟩)) (w' := w.alloc (.cells t.zero.toArray T)) ?_ this
  have e : z.cells = t.zero.toArray := by rw [← hzc]
  simp [execOp, ho, Instr.alloc, hz, newVar, newRow, e]

/-! ### cells of a value -/
theorem cellsOf_sound {ti} (hti : TIok P ti) {T : TypeId} {t : TI} (ht : ti T = some t) {v : AV} {cs : List A1} {cm : List Cmd} (h : cellsOf t v = some (cs, cm)) (hok : v.ok σ ρ) (hc : ∀ c ∈ cm, Cmd.holds P G ρ c) :
    (v.conc σ ρ).cells = (cs.map (A1.conc σ ρ)).toArray ∧ cs.length = t.size ∧ (∀ c ∈ cs, (c.conc σ ρ).oneCell' = true) ∧ (∀ k ∈ cs.flatMap A1.gh, k ∈ v.gh) := by
  obtain ⟨info, z', h1, h2, _, h4, h5, h6, h7, h8, _⟩ := hti T t ht
  have hone : ∀ x : Value, x.oneCell' = true → x.cells = #[x] := fun x hx => by cases x <;> simp_all [Value.oneCell', Value.cells]
  cases v with
  | tup l => simp [cellsOf] at h
  | «at» x =>
    cases x with
    | agg l =>
      simp only [cellsOf] at h
      split at h
      · rename_i hcond
        simp only [Bool.and_eq_true, beq_iff_eq] at hcond
        cases h
        exact ⟨rfl, hcond.2, hok, fun k hk => hk⟩
      · cases h
    | one x =>
      have scal : ∀ (x : A1) (cm' : List Cmd), (x.conc σ ρ).oneCell' = true → t.size = 1 → ((AV.at (.one x)).conc σ ρ).cells = ([x].map (A1.conc σ ρ)).toArray ∧ [x].length = t.size ∧ (∀ c ∈ [x], (c.conc σ ρ).oneCell' = true) ∧ (∀ k ∈ [x].flatMap A1.gh, k ∈ (AV.at (.one x)).gh) := by
        intro x _ hx hs
        refine ⟨?_, by rw [hs]; rfl, by simpa using hx, fun k hk => by simpa [AV.gh, AT.gh] using hk⟩
        simp only [AV.conc, AT.conc, hone _ hx, List.map_cons, List.map_nil]
      cases x with
      | var n =>
        simp only [cellsOf] at h
        split at h
        · cases h
          obtain ⟨cs, e1, e2, e3⟩ := hc (.isAgg n t.size) (by simp)
          refine ⟨?_, by simp, ?_, fun k hk => by simp [List.flatMap_map, A1.gh] at hk⟩
          · simp only [AV.conc, AT.conc, A1.conc, e1, Value.cells]
            apply Array.ext'
            apply List.ext_getElem
            · simp [e2]
            · intro i hi1 hi2
              simp only [List.map_map, Function.comp_def, A1.conc, vc, e1, Value.cells, List.getElem_map, List.getElem_range]
              have : i < cs.size := by simpa using hi1
              simp [this]
          · intro c hc'
            obtain ⟨i, hi, rfl⟩ := List.mem_map.1 hc'
            have hi' : i < cs.size := by rw [e2]; simpa using hi
            have : vc (ρ n) i = cs[i] := by simp [vc, e1, Value.cells, hi']
            simp only [A1.conc, this]
            exact e3 _ (by simp)
        · split at h
          · rename_i hs
            cases h
            exact scal _ [] (hc (.isOne (.var n)) (by simp)) (by simpa using hs)
          · cases h
      | lit v =>
        by_cases hv : ∃ cs, v = .agg cs
        · obtain ⟨cs0, rfl⟩ := hv
          simp only [cellsOf] at h
          split at h
          · rename_i hcond
            simp only [Bool.and_eq_true, beq_iff_eq, List.all_eq_true] at hcond
            cases h
            refine ⟨by simp [AV.conc, AT.conc, A1.conc, Value.cells, List.map_map, Function.comp_def], by simpa using hcond.1.2, fun c hc' => ?_, fun k hk => by simp [List.flatMap_map, A1.gh] at hk⟩
            obtain ⟨v, hv, rfl⟩ := List.mem_map.1 hc'
            exact hcond.2 v hv
          · cases h
        · have : cellsOf t (.at (.one (.lit v))) = if t.k.row then none else if t.size == 1 then some ([A1.lit v], if (A1.lit v).one? then [] else [.isOne (.lit v)]) else none := by
            cases v <;> first | rfl | exact absurd ⟨_, rfl⟩ hv
          rw [this] at h
          split at h
          · cases h
          · split at h
            · rename_i hs
              cases h
              refine scal _ [] ?_ (by simpa using hs)
              by_cases ho : (A1.lit v).one? = true
              · exact ho
              · exact hc (.isOne (.lit v)) (by simp [ho])
            · cases h
      | part n i sz =>
        simp only [cellsOf] at h
        split at h
        · cases h
        · split at h
          · rename_i hs; cases h
            exact scal _ [] (hc (.isOne (.part n i sz)) (by simp [A1.one?])) (by simpa using hs)
          · cases h
      | ptr k o =>
        simp only [cellsOf] at h
        split at h
        · cases h
        · split at h
          · rename_i hs; cases h; exact scal _ [] rfl (by simpa using hs)
          · cases h
      | ptrx k n sc =>
        simp only [cellsOf] at h
        split at h
        · cases h
        · split at h
          · rename_i hs; cases h; exact scal _ [] rfl (by simpa using hs)
          · cases h
      | sl k =>
        simp only [cellsOf] at h
        split at h
        · cases h
        · split at h
          · rename_i hs; cases h
            refine scal _ [] ?_ (by simpa using hs)
            simp only [A1.conc, GV.slv]; split <;> rfl
          · cases h

theorem sound_box (hti : TIok P C.ti) (hg : Gam w0 M N S σ ρ a w) {o : Oper} {T : TypeId} {x : Operand} (ho : o.op = .box T x) {v : AV} (hx : (opnd x).val S = some v) {t : TI} (ht : C.ti T = some t)
    {cs : List A1} {cm : List Cmd} (hcs : cellsOf t v = some (cs, cm)) (hc : ∀ c ∈ cm, Cmd.holds P G ρ c) {ng : Nat} (hfresh : ¬ S.ment ng) (hng : 10000 ≤ ng) (hdst : ∀ t, o.dst = some t → t < N) :
    Stp P o a w fun a' w' => ∃ σ', Gam w0 M N (S.app (({ v := .at (.one (.ptr ng 0)), rw := [(ng, some { c := .lst cs, es := 0, ap := none })], wr := [(ng, true)], cm } : Out).dl o.dst)) σ' ρ a' w' := by
  obtain ⟨h1, h2⟩ := opnd_val hg hx
  obtain ⟨h3, h4, h5, h6⟩ := cellsOf_sound hti ht hcs h2 hc
  refine .value (v := .pointer (some ⟨w.heap.size, 0, none⟩)) (w' := w.alloc (.cells (cs.map (A1.conc σ ρ)).toArray T)) ?_
    (hg.new_var (dst := o.dst) (ng := ng) (cs := cs) (T := T) hfresh hng hdst (fun k hk => opnd_ment hx k (h6 k hk)) h5 cm)
  simp [execOp, ho, Instr.box, newVar, newRow, h1, h3]
end
end Go.Sx

/-
  Each operation's step is sound: loads, stores, addresses.
-/
namespace Go.Sx

section
variable {P : Program} {G : Glb} {C : Cfg} {w0 : World} {M : Ms} {N : Nat} {S : St} {σ : Nat → GV} {ρ : Nat → Value} {a : Act} {w : World}

theorem rangeAt_sub {w : World} {b o : Nat} {cs : List Value} (h : w.rangeAt b o cs) (i m : Nat) : w.rangeAt b (o + i) ((cs.drop i).take m) := fun j v hv => by
  rw [List.getElem?_take] at hv
  split at hv
  · rw [List.getElem?_drop] at hv
    have := h (i + j) v hv
    rwa [show o + i + j = o + (i + j) by omega]
  · cases hv

theorem row_range (hg : Gam w0 M N S σ ρ a w) {k : Nat} {r : Row} (hr : S.row k = some r) {i m : Nat} (hm : 0 < m) (hl : i + m ≤ (r.c.cont σ ρ).length) :
    (σ k).nil = false ∧ w.rangeAt (σ k).blk ((σ k).off + i) (((r.c.cont σ ρ).drop i).take m) := by
  have h := (hg.row k r hr).rd
  have hn : (σ k).nil = false := by
    cases hn : (σ k).nil with
    | false => rfl
    | true => have := (h.nil hn).1; rw [this] at hl; simp at hl; omega
  exact ⟨hn, rangeAt_sub (h.at_ hn) i m⟩

theorem run_loadAt_one {T : TypeId} {d : TypeDesc} (hu : P.underlying T = some d) (hd : d.isRow = false) {b o : Nat} {v : Value} (hc : w.cell? ⟨b, o, none⟩ = some v) :
    (Instr.loadAt T (.pointer (some ⟨b, o, none⟩))).run P w = .ok v w := by
  have hagg : (isAgg T).run P w = .ok false w := by
    unfold isAgg
    rw [Sem.run_bind, run_underlying hu w]
    cases d <;> simp_all
  simp [Instr.loadAt, Instr.sureAddr, loadVar, hagg, hc]

theorem ti_row {ti} (hti : TIok P ti) {t i} (h : ti t = some i) (hk : i.k.row = true) : ∃ d, P.underlying t = some d ∧ d.isRow = true ∧ (P.info? t).map (·.size) = some i.size ∧ 0 < i.size := by
  obtain ⟨info, z, h1, h2, _, h4, h5, h6, h7, h8, _⟩ := hti t i h
  cases hk' : i.k with
  | arr n el => rw [hk'] at h8; exact ⟨_, h8.1, rfl, by rw [h1]; simp [h2], by have := h8.2.1; omega⟩
  | str fs => rw [hk'] at h8; obtain ⟨f, h9, _, h10, _⟩ := h8; exact ⟨_, h9, rfl, by rw [h1]; simp [h2], by omega⟩
  | sc => rw [hk'] at hk; cases hk
  | u8 => rw [hk'] at hk; cases hk
  | stg => rw [hk'] at hk; cases hk
  | slc el => rw [hk'] at hk; cases hk
theorem ti_sc {ti} (hti : TIok P ti) {t i} (h : ti t = some i) (hk : i.k.row = false) : ∃ d, P.underlying t = some d ∧ d.isRow = false := by
  obtain ⟨info, z, h1, h2, _, h4, h5, h6, h7, h8, _⟩ := hti t i h
  cases hk' : i.k with
  | arr n el => rw [hk'] at hk; cases hk
  | str fs => rw [hk'] at hk; cases hk
  | sc => rw [hk'] at h8; obtain ⟨d, h9, h10, _⟩ := h8; exact ⟨d, h9, h10⟩
  | u8 => rw [hk'] at h8; exact ⟨_, h8, rfl⟩
  | stg => rw [hk'] at h8; exact ⟨_, h8, rfl⟩
  | slc el => rw [hk'] at h8; exact ⟨_, h8.1, rfl⟩

theorem etaAgg_sound {l : List A1} (hc : ∀ c ∈ (etaAgg l).2, Cmd.holds P G ρ c) (hone : ∀ c ∈ l, (c.conc σ ρ).oneCell' = true) :
    (etaAgg l).1.conc σ ρ = .agg (l.map (A1.conc σ ρ)).toArray ∧ (etaAgg l).1.ok σ ρ := by
  revert hc
  unfold etaAgg
  split
  · rename_i n sz r
    split
    · rename_i hcond
      intro hc
      simp only [Bool.and_eq_true, beq_iff_eq, List.all_eq_true] at hcond
      obtain ⟨hlen, hall⟩ := hcond
      obtain ⟨cs, e1, e2, _⟩ := hc (.isAgg n sz) (by simp)
      refine ⟨?_, trivial⟩
      simp only [AV.conc, AT.conc, A1.conc, e1]
      congr 1
      apply Array.ext'
      apply List.ext_getElem
      · rw [Array.length_toList, e2, List.length_map]; exact hlen
      · intro i hi1 hi2
        have hi : i < (A1.part n 0 sz :: r).length := by rw [← hlen, ← e2]; simpa using hi1
        have hm := hall ((A1.part n 0 sz :: r)[i], i) (by
          rw [List.mem_iff_getElem?]
          exact ⟨i, by rw [List.getElem?_zipIdx, List.getElem?_eq_getElem hi]; simp⟩)
        simp only [List.getElem_map]
        cases hx : (A1.part n 0 sz :: r)[i] with
        | part m j s =>
          rw [hx] at hm
          simp only [Bool.and_eq_true, beq_iff_eq] at hm
          obtain ⟨⟨hm1, hm2⟩, _⟩ := hm
          have hlt : i < cs.size := by simpa using hi1
          simp only [A1.conc, vc, hm1, e1, Value.cells, hm2]
          simp [hlt]
        | _ => rw [hx] at hm; simp at hm
    · exact fun _ => ⟨rfl, hone⟩
  · exact fun _ => ⟨rfl, hone⟩

theorem row!_val {k : Nat} {c : Row → Rd Out} {out : Out} (h : (row! k c).val S = some out) : ∃ r, S.row k = some r ∧ (c r).val S = some out := by
  simp only [row!, Rd.val] at h
  split at h
  · rename_i r hr; exact ⟨r, hr, h⟩
  · cases h

theorem sound_load (hti : TIok P C.ti) (hg : Gam w0 M N S σ ρ a w) {o : Oper} {T : TypeId} {x : Operand} (ho : o.op = .load T x) {v : AV} (hx : (opnd x).val S = some v) {nv : Nat} {out : Out}
    (h : (doLoad C nv T v).val S = some out) (hc : ∀ c ∈ out.cm, Cmd.holds P G ρ c) (hdst : ∀ t, o.dst = some t → t < N) :
    Stp P o a w fun a' w' => ∃ σ', Gam w0 M N (S.app (out.dl o.dst)) σ' ρ a' w' := by
  obtain ⟨h1, h2⟩ := opnd_val hg hx
  have key : ∀ u, (Instr.loadAt T (v.conc σ ρ)).run P w = .ok u w → (execOp a.eval o).run P w = .ok (.value u) w := fun u hu => by
    simp [execOp, ho, h1, hu]
  unfold doLoad at h
  split at h
  · cases h
  rename_i t ht
  split at h
  · rename_i k off
    obtain ⟨r, hr, h⟩ := row!_val h
    have hv : (AV.at (.one (.ptr k off))).conc σ ρ = .pointer (some ⟨(σ k).blk, (σ k).off + off, none⟩) := rfl
    rw [hv] at key
    split at h
    · rename_i l hl
      obtain ⟨hlen, h⟩ := Rd.chk_val h
      simp only [decide_eq_true_eq] at hlen
      have ec : r.c.cont σ ρ = l.map (A1.conc σ ρ) := by rw [hl]; rfl
      have hone : ∀ c ∈ (l.drop off).take t.size, (c.conc σ ρ).oneCell' = true := fun c hc => by
        have : c ∈ l := List.mem_of_mem_drop (List.mem_of_mem_take hc)
        exact (hg.row k r hr).rd.one _ (by rw [ec]; exact List.mem_map.2 ⟨c, this, rfl⟩)
      split at h
      · rename_i hk
        cases h
        obtain ⟨d, hu, hd, hi, hsz⟩ := ti_row hti ht hk
        obtain ⟨hn, hra⟩ := row_range hg hr (i := off) (m := t.size) hsz (by rw [ec]; simpa using hlen)
        rw [ec, ← List.map_drop, ← List.map_take] at hra
        obtain ⟨e1, e2⟩ := etaAgg_sound (P := P) (G := G) (σ := σ) (ρ := ρ) (l := (l.drop off).take t.size) hc hone
        refine sound_pure hg (v := (etaAgg ((l.drop off).take t.size)).1) (key _ ?_) e2 hdst _ _
        rw [e1]
        exact run_loadAt_mid w _ _ T _ d hra hu hd (by rw [hi]; simp; omega)
      · rename_i hk
        split at h
        · rename_i c hcs
          cases h
          obtain ⟨d, hu, hd⟩ := ti_sc hti ht (by simpa using hk)
          have hl1 : ((l.drop off).take t.size).length = 1 := by rw [hcs]; rfl
          have hsz : 0 < t.size := by
            rw [List.length_take] at hl1; omega
          obtain ⟨hn, hra⟩ := row_range hg hr (i := off) (m := t.size) hsz (by rw [ec]; simpa using hlen)
          rw [ec, ← List.map_drop, ← List.map_take, hcs] at hra
          refine sound_pure hg (v := .at (.one c)) (key _ ?_) trivial hdst _ _
          exact run_loadAt_one hu hd (hra 0 _ rfl)
        · cases h
    · rename_i c hcne
      split at h
      · rename_i hk
        cases h
        obtain ⟨hl, e⟩ := hc _ (List.mem_singleton.2 rfl)
        have ec : r.c.cont σ ρ = r.c.cden ρ := RC.cont_pure (by cases hcc : r.c <;> simp_all [RC.pure]) σ ρ
        obtain ⟨d, hu, hd, hi, hsz⟩ := ti_row hti ht hk
        obtain ⟨hn, hra⟩ := row_range hg hr (i := off) (m := t.size) hsz (by rw [ec]; exact hl)
        rw [ec] at hra
        refine sound_pure hg (v := v1 nv) (key _ ?_) trivial hdst _ _
        rw [show (v1 nv).conc σ ρ = ρ nv from rfl, e]
        exact run_loadAt_mid w _ _ T _ d hra hu hd (by rw [hi]; simp; omega)
      · rename_i hk
        obtain ⟨_, h⟩ := Rd.chk_val h
        cases h
        have e := hc _ (List.mem_singleton.2 rfl)
        simp only [Cmd.holds] at e
        have ec : r.c.cont σ ρ = r.c.cden ρ := RC.cont_pure (by cases hcc : r.c <;> simp_all [RC.pure]) σ ρ
        obtain ⟨d, hu, hd⟩ := ti_sc hti ht (by simpa using hk)
        have hlt := (List.getElem?_eq_some_iff.1 e).1
        obtain ⟨hn, hra⟩ := row_range hg hr (i := off) (m := 1) (by omega) (by rw [ec]; omega)
        rw [ec] at hra
        refine sound_pure hg (v := v1 nv) (key _ ?_) trivial hdst _ _
        refine run_loadAt_one hu hd (hra 0 _ ?_)
        rw [List.getElem?_take, if_pos (by omega), List.getElem?_drop]
        exact e
  · rename_i k n sc
    obtain ⟨r, hr, h⟩ := row!_val h
    obtain ⟨hp, h⟩ := Rd.chk_val h
    have ec : r.c.cont σ ρ = r.c.cden ρ := RC.cont_pure hp σ ρ
    have hv : (AV.at (.one (.ptrx k n sc))).conc σ ρ = .pointer (some ⟨(σ k).blk, (σ k).off + toN (ρ n) * sc, none⟩) := rfl
    rw [hv] at key
    split at h
    · rename_i hk
      cases h
      obtain ⟨hl, e⟩ := hc _ (List.mem_singleton.2 rfl)
      obtain ⟨d, hu, hd, hi, hsz⟩ := ti_row hti ht hk
      obtain ⟨hn, hra⟩ := row_range hg hr (i := toN (ρ n) * sc) (m := t.size) hsz (by rw [ec]; exact hl)
      rw [ec] at hra
      refine sound_pure hg (v := v1 nv) (key _ ?_) trivial hdst _ _
      rw [show (v1 nv).conc σ ρ = ρ nv from rfl, e]
      exact run_loadAt_mid w _ _ T _ d hra hu hd (by rw [hi]; simp; omega)
    · rename_i hk
      obtain ⟨_, h⟩ := Rd.chk_val h
      cases h
      have e := hc _ (List.mem_singleton.2 rfl)
      simp only [Cmd.holds] at e
      obtain ⟨d, hu, hd⟩ := ti_sc hti ht (by simpa using hk)
      have hlt := (List.getElem?_eq_some_iff.1 e).1
      obtain ⟨hn, hra⟩ := row_range hg hr (i := toN (ρ n) * sc) (m := 1) (by omega) (by rw [ec]; omega)
      rw [ec] at hra
      refine sound_pure hg (v := v1 nv) (key _ ?_) trivial hdst _ _
      refine run_loadAt_one hu hd (hra 0 _ ?_)
      rw [List.getElem?_take, if_pos (by omega), List.getElem?_drop]
      exact e
  · cases h
end
end Go.Sx

/-
  Each operation's step is sound: stores.
-/
namespace Go.Sx

/-- cells put one by one -/
def sets : List Value → Nat → List Value → List Value
  | xs, _, [] => xs
  | xs, o, v :: r => sets (xs.set o v) (o + 1) r

theorem sets_length : ∀ (vs xs : List Value) (o : Nat), (sets xs o vs).length = xs.length := by
  intro vs
  induction vs with
  | nil => intro xs o; rfl
  | cons v r ih => intro xs o; simp [sets, ih]

theorem sets_cons : ∀ (vs : List Value) (x : Value) (xs : List Value) (o : Nat), sets (x :: xs) (o + 1) vs = x :: sets xs o vs := by
  intro vs
  induction vs with
  | nil => intro x xs o; rfl
  | cons v r ih => intro x xs o; simp [sets, ih]

theorem sets_eq : ∀ (vs xs : List Value) (o : Nat), o + vs.length ≤ xs.length → sets xs o vs = xs.take o ++ vs ++ xs.drop (o + vs.length) := by
  intro vs
  induction vs with
  | nil => intro xs o h; simp [sets]
  | cons v r ih =>
    intro xs
    induction xs with
    | nil => intro o h; simp at h
    | cons x xs ihx =>
      intro o h
      cases o with
      | zero =>
        simp only [sets, List.set_cons_zero, sets_cons]
        rw [ih xs 0 (by simp at h; omega)]
        simp
      | succ o =>
        rw [sets_cons, ihx o (by simp at h ⊢; omega)]
        simp [show o + 1 + (r.length + 1) = o + (r.length + 1) + 1 by omega]

theorem mem_sets {c : Value} : ∀ (vs xs : List Value) (o : Nat), c ∈ sets xs o vs → c ∈ xs ∨ c ∈ vs := by
  intro vs
  induction vs with
  | nil => intro xs o h; exact .inl h
  | cons v r ih =>
    intro xs o h
    rcases ih _ _ h with h | h
    · rcases List.mem_or_eq_of_mem_set h with h | h
      · exact .inl h
      · exact .inr (by simp [h])
    · exact .inr (by simp [h])

theorem rangeAt_setCell {w : World} {b p : Nat} {xs : List Value} (h : w.rangeAt b p xs) (o : Nat) (v : Value) (ho : o < xs.length) : (w.setCell ⟨b, p + o, none⟩ v).rangeAt b p (xs.set o v) := fun j u hu => by
  rw [List.getElem?_set] at hu
  split at hu
  · rename_i e
    subst e
    simp only [Option.some.injEq] at hu
    subst hu
    exact World.cell?_setCell_same _ _ _ (h _ _ (List.getElem?_eq_getElem ho))
  · rename_i e
    rw [World.cell?_setCell_other _ _ _ _ (by intro e'; simp at e'; omega)]
    exact h j u hu

theorem rangeAt_setCells {b p : Nat} : ∀ (vs : List Value) (o : Nat) (w : World) (xs : List Value), w.rangeAt b p xs → o + vs.length ≤ xs.length → (w.setCells b (p + o) vs).rangeAt b p (sets xs o vs) := by
  intro vs
  induction vs with
  | nil => intro o w xs h _; exact h
  | cons v r ih =>
    intro o w xs h hl
    simp only [World.setCells, sets]
    rw [show p + o + 1 = p + (o + 1) by omega]
    exact ih (o + 1) _ _ (rangeAt_setCell h o v (by simp at hl; omega)) (by simp at hl ⊢; omega)

theorem heap_setCells_other {g : Nat} : ∀ (vs : List Value) (o : Nat) (w : World) (i : Nat), i ≠ g → (w.setCells g o vs).heap[i]? = w.heap[i]? := by
  intro vs
  induction vs with
  | nil => intro o w i _; rfl
  | cons v r ih =>
    intro o w i hi
    simp only [World.setCells]
    rw [ih _ _ _ hi]
    exact heap_setCell_other w ⟨g, o, none⟩ i v hi
theorem size_setCells {g : Nat} : ∀ (vs : List Value) (o : Nat) (w : World), (w.setCells g o vs).heap.size = w.heap.size := by
  intro vs
  induction vs with
  | nil => intro o w; rfl
  | cons v r ih => intro o w; simp only [World.setCells]; rw [ih]; simp
theorem misc_setCells {g : Nat} : ∀ (vs : List Value) (o : Nat) (w : World), (w.setCells g o vs).os = w.os ∧ (w.setCells g o vs).tape = w.tape ∧ (w.setCells g o vs).output = w.output := by
  intro vs
  induction vs with
  | nil => intro o w; exact ⟨rfl, rfl, rfl⟩
  | cons v r ih => intro o w; simp only [World.setCells]; exact ih _ _

theorem ownsRow_setCells {b0 el size n cap g : Nat} : ∀ (vs : List Value) (o : Nat) (w : World) (xs : List Value), w.ownsRow b0 el size (.slice (some ⟨g, 0, none⟩) n cap) n xs →
    (w.setCells g o vs).ownsRow b0 el size (.slice (some ⟨g, 0, none⟩) n cap) n (sets xs o vs) := by
  intro vs
  induction vs with
  | nil => intro o w xs h; exact h
  | cons v r ih => intro o w xs h; simp only [World.setCells, sets]; exact ih (o + 1) _ _ (World.ownsRow.stored (w := w) h o v).1

/-- an owned row of another block stands -/
theorem ownsRow_setCells_other {b0 el size n g : Nat} {v : Value} {xs : List Value} {w : World} (h : w.ownsRow b0 el size v n xs) (vs : List Value) (o : Nat) (hne : v.ownBlock ≠ some g) :
    (w.setCells g o vs).ownsRow b0 el size v n xs := by
  obtain ⟨m1, m2, m3⟩ := misc_setCells (g := g) vs o w
  refine World.ownsRow.kept (row := some g) h ⟨m1, m2, m3, Nat.le_of_eq (size_setCells vs o w).symm, fun k hk hne' => heap_setCells_other vs o w k (fun e => hne' (by rw [e]))⟩ ?_
  exact .inr hne

section
variable {P : Program} {G : Glb} {C : Cfg} {w0 : World} {M : Ms} {N : Nat} {S : St} {σ : Nat → GV} {ρ : Nat → Value} {a : Act} {w : World}

theorem slv_ownBlock {g : GV} : g.slv.ownBlock = if g.nil then none else some g.blk := by
  unfold GV.slv; split <;> rfl

/-- a store into a row of one's own -/
theorem Gam.store (hg : Gam w0 M N S σ ρ a w) {d : Dl} {k : Nat} {r r' : Row} (hr : S.row k = some r) (hown : S.own k = true) (hrw : d.rw = [(k, some r')]) (hwr : d.wr = []) (hdst : ∀ t, d.dst = some t → t < N)
    (hv : d.v.ok σ ρ) {o : Nat} {vals : List Value} (hpos : 0 < vals.length) (hlen : o + vals.length ≤ (r.c.cont σ ρ).length) (hc' : r'.c.cont σ ρ = sets (r.c.cont σ ρ) o vals) (hes : r'.es = r.es) (hap : r'.ap = r.ap)
    (hone : ∀ c ∈ vals, c.oneCell' = true) :
    (σ k).nil = false ∧ w.there (σ k).blk ((σ k).off + o) vals.length ∧
    Gam w0 M N (S.app d) σ ρ (a.put d.dst (d.v.conc σ ρ)) (w.setCells (σ k).blk ((σ k).off + o) vals) := by
  have hrk := hg.row k r hr
  have hn : (σ k).nil = false := by
    cases hn : (σ k).nil with
    | false => rfl
    | true => have := (hrk.rd.nil hn).1; rw [this] at hlen; simp only [List.length_nil] at hlen; omega
  obtain ⟨r0, hr0, hof⟩ := hg.own k hown
  rw [hr] at hr0
  cases hr0
  obtain ⟨ht, hblk, hdis⟩ := hof hn
  have hsz := size_setCells (g := (σ k).blk) vals ((σ k).off + o) w
  obtain ⟨m1, m2, m3⟩ := misc_setCells (g := (σ k).blk) vals ((σ k).off + o) w
  have hr1 : (S.app d).row k = some r' := by simp [St.row, St.app, hrw, lk]
  have hr2 : ∀ k', k' ≠ k → (S.app d).row k' = S.row k' := fun k' hk => by
    simp only [St.row, St.app, hrw, List.cons_append, List.nil_append, lk]
    rw [if_neg (fun e => hk e.symm)]
  have ho2 : ∀ k', (S.app d).own k' = S.own k' := fun k' => by simp [St.own, St.app, hwr]
  refine ⟨hn, fun j hj => ?_, ?_⟩
  · have := ht (o + j) (by omega)
    rwa [← Nat.add_assoc] at this
  · exact {
      defers := by rw [put_defers]; exact hg.defers
      size := by rw [put_size]; exact hg.size
      slot := slots_step hg (fun _ _ => rfl) hdst hv
      row := fun k' q h => by
        by_cases hk : k' = k
        · subst hk
          rw [hr1] at h
          cases h
          refine ⟨⟨?_, ?_, ?_, ?_⟩, fun h => ?_, fun el he => ?_⟩
          · intro h; rw [hn] at h; cases h
          · intro _; rw [hsz]; exact hrk.rd.live hn
          · intro _; rw [hc']; exact rangeAt_setCells vals o w _ (hrk.rd.at_ hn) hlen
          · intro c hc
            rw [hc'] at hc
            rcases mem_sets _ _ _ hc with h | h
            · exact hrk.rd.one c h
            · exact hone c h
          · rw [hc', sets_length, hes]; exact hrk.len (by rw [← hes]; exact h)
          · rw [hap] at he
            obtain ⟨h1, h2⟩ := hrk.app el he
            rw [hes, hc']
            refine ⟨h1, ?_⟩
            have e : (σ k').slv = .slice (some ⟨(σ k').blk, (σ k').off, none⟩) (σ k').len (σ k').cap := by simp [GV.slv, hn]
            rw [e] at h2 ⊢
            have h0 : (σ k').off = 0 := by
              rcases h2.2 with ⟨h, _⟩ | ⟨g, cap, cur, h, _⟩
              · cases h
              · simp at h; exact h.1.2
            rw [h0] at h2 ⊢
            rw [Nat.zero_add]
            exact ownsRow_setCells vals o w _ h2
        · rw [hr2 k' hk] at h
          have hq := hg.row k' q h
          refine ⟨⟨hq.rd.nil, ?_, ?_, hq.rd.one⟩, hq.len, fun el he => ⟨(hq.app el he).1, ?_⟩⟩
          · intro hn'; rw [hsz]; exact hq.rd.live hn'
          · intro hn'; exact World.rangeAt_setCells_apart (hq.rd.at_ hn') _ _ _ (.inl (hdis k' q hk h hn'))
          · refine ownsRow_setCells_other (hq.app el he).2 vals _ ?_
            rw [slv_ownBlock]
            cases hn' : (σ k').nil with
            | true => simp
            | false => simpa using hdis k' q hk h hn'
      own := fun k' h => by
        rw [ho2] at h
        by_cases hk : k' = k
        · subst hk
          refine ⟨r', hr1, fun _ => ⟨?_, hblk, fun k2 q hne hq hn2 => ?_⟩⟩
          · rw [hc', sets_length]; exact World.there_setCells ht _ _ _
          · rw [hr2 k2 hne] at hq; exact hdis k2 q hne hq hn2
        · obtain ⟨q, hq, h2⟩ := hg.own k' h
          refine ⟨q, by rw [hr2 k' hk]; exact hq, fun hn' => ?_⟩
          obtain ⟨h3, h4, h5⟩ := h2 hn'
          refine ⟨World.there_setCells h3 _ _ _, h4, fun k2 q2 hne hq2 hn2 => ?_⟩
          by_cases hk2 : k2 = k
          · subst hk2; exact h5 k2 r (fun e => hk e.symm) hr hn2
          · rw [hr2 k2 hk2] at hq2; exact h5 k2 q2 hne hq2 hn2
      glob := hg.glob
      src := fun k' q h hn' => by
        by_cases hk : k' = k
        · subst hk; exact hg.src k' r hr hn'
        · rw [hr2 k' hk] at h; exact hg.src k' q h hn'
      frm := ⟨m1.trans hg.frm.os, m2.trans hg.frm.tape, m3.trans hg.frm.output, by rw [hsz]; exact hg.frm.size, fun j hj hM => by
        rw [heap_setCells_other vals _ w j (by rcases hblk with h | h
                                               · omega
                                               · exact fun e => hM (e ▸ h))]
        exact hg.frm.block j hj hM⟩ }

theorem run_storeAt_cells {T : TypeId} {info : TypeInfo} (hi : P.info? T = some info) {v : Value} {vals : List Value} (hv : v.cells = vals.toArray) (hs : info.size = vals.length) {b o : Nat} (ht : w.there b o vals.length)
    (h1 : ∀ c ∈ vals, c.oneCell' = true) : (Instr.storeAt T (.pointer (some ⟨b, o, none⟩)) v).run P w = .ok () (w.setCells b o vals) := by
  have := run_storeCells_cells (P := P) b o vals 0 w (fun j hj => by simpa using (ht j hj).1) (fun j hj => by simpa using (ht j hj).2) h1
  simp only [Nat.add_zero] at this
  simp [Instr.storeAt, Instr.sureAddr, storeVar, sizeOf, typeInfo, hi, hv, hs, this]

theorem put_cont {l : List A1} {o : Nat} {cs : List A1} (h : o + cs.length ≤ l.length) : (put l o cs).map (A1.conc σ ρ) = sets (l.map (A1.conc σ ρ)) o (cs.map (A1.conc σ ρ)) := by
  rw [sets_eq _ _ _ (by simpa using h)]
  simp [put, List.map_take, List.map_drop]

theorem set_as_sets (xs : List Value) (o : Nat) (v : Value) : xs.set o v = sets xs o [v] := rfl

theorem parts_cont {nv : Nat} {cs : Array Value} (h : ρ nv = .agg cs) : ((List.range cs.size).map fun i => A1.part nv i cs.size).map (A1.conc σ ρ) = cs.toList := by
  apply List.ext_getElem
  · simp
  · intro i h1 h2
    have : i < cs.size := by simpa using h2
    simp [A1.conc, vc, h, Value.cells, this]

theorem own_val {α : Type} {k : Nat} {f : Bool → Rd α} {x : α} (h : (Rd.own k f).val S = some x) : (f (S.own k)).val S = some x := h

theorem sound_store (hti : TIok P C.ti) (hg : Gam w0 M N S σ ρ a w) {o : Oper} {T : TypeId} {p x : Operand} (ho : o.op = .store T p x) {vp vx : AV} (hp : (opnd p).val S = some vp) (hx : (opnd x).val S = some vx) {nv : Nat} {out : Out}
    (h : (doStore C nv T vp vx).val S = some out) (hc : ∀ c ∈ out.cm, Cmd.holds P G ρ c) (hdst : ∀ t, o.dst = some t → t < N) :
    Stp P o a w fun a' w' => ∃ σ', Gam w0 M N (S.app (out.dl o.dst)) σ' ρ a' w' := by
  obtain ⟨p1, p2⟩ := opnd_val hg hp
  clear p2
  obtain ⟨x1, x2⟩ := opnd_val hg hx
  unfold doStore at h
  split at h
  · cases h
  rename_i t ht
  split at h
  · cases h
  rename_i cs cm hcs
  obtain ⟨info, z, i1, i2, i3, i4, i5, i6, i7, i8, i9⟩ := hti T t ht
  have fin : ∀ (k off : Nat) (r : Row) (hr : S.row k = some r) (hcm : ∀ c ∈ cm, Cmd.holds P G ρ c) (_ : a.eval p = .pointer (some ⟨(σ k).blk, (σ k).off + off, none⟩)) (_ : S.own k = true) (r' : Row)
      (_ : off + cs.length ≤ (r.c.cont σ ρ).length) (_ : r'.c.cont σ ρ = sets (r.c.cont σ ρ) off (cs.map (A1.conc σ ρ))) (_ : r'.es = r.es) (_ : r'.ap = r.ap) (_ : 0 < cs.length) (cm' : List Cmd) (dv : Nat),
      Stp P o a w fun a' w' => ∃ σ', Gam w0 M N (S.app (({ v := .at (.one (.lit undef)), rw := [(k, some r')], cm := cm', dv } : Out).dl o.dst)) σ' ρ a' w' := by
    intro k off r hr hcm hpe hown r' hlen hcont hes hap hpos cm' dv
    obtain ⟨c1, c2, c3, _⟩ := cellsOf_sound hti ht hcs x2 hcm
    have hone : ∀ c ∈ cs.map (A1.conc σ ρ), c.oneCell' = true := fun c hc => by
      obtain ⟨c0, h0, rfl⟩ := List.mem_map.1 hc
      exact c3 c0 h0
    obtain ⟨hn, hthere, hgam⟩ := hg.store (d := ({ v := .at (.one (.lit undef)), rw := [(k, some r')], cm := cm', dv } : Out).dl o.dst) hr hown rfl rfl hdst trivial
      (o := off) (vals := cs.map (A1.conc σ ρ)) (by simpa using hpos) (by simpa using hlen) hcont hes hap hone
    refine .skip (w' := w.setCells (σ k).blk ((σ k).off + off) (cs.map (A1.conc σ ρ))) ?_ ⟨σ, hgam⟩
    have := run_storeAt_cells (P := P) (w := w) i1 (v := a.eval x) (by rw [x1]; exact c1) (by rw [i2]; simpa using c2.symm) hthere hone
    simp [execOp, ho, hpe, this]
  split at h
  · rename_i k off
    replace h := own_val h
    obtain ⟨hown, h⟩ := Rd.chk_val h
    obtain ⟨r, hr, h⟩ := row!_val h
    have hpe : a.eval p = .pointer (some ⟨(σ k).blk, (σ k).off + off, none⟩) := p1
    split at h
    · rename_i l hl
      obtain ⟨hlen, h⟩ := Rd.chk_val h
      simp only [Bool.and_eq_true, bne_iff_ne, decide_eq_true_eq] at hlen
      obtain ⟨hpos, hlen⟩ := hlen
      cases h
      refine fin k off r hr hc hpe hown { r with c := .lst (put l off cs) } ?_ ?_ rfl rfl (by omega) _ _
      · rw [hl]; simpa [RC.cont] using hlen
      · rw [hl]; exact put_cont hlen
    · rename_i n hl
      rcases cs with _ | ⟨c, _ | ⟨c', cs'⟩⟩
      · cases h
      · obtain ⟨hpu, h⟩ := Rd.chk_val h
        cases h
        obtain ⟨s1, s2⟩ := hc (.set (.all n) off c nv) (by simp)
        have ec : r.c.cont σ ρ = (RC.all n).cden ρ := by rw [hl]; rfl
        refine fin k off r hr (fun c hc' => hc c (by simp [hc'])) hpe hown { r with c := .all nv } (by rw [ec]; simp; omega) ?_ rfl rfl (by simp) _ _
        rw [ec]
        show (ρ nv).cells.toList = _
        rw [s2]
        simp only [Value.cells, List.map_cons, List.map_nil, ← set_as_sets, A1.conc_pure hpu]
      · cases h
    · cases h
  · rename_i k n
    replace h := own_val h
    obtain ⟨hown, h⟩ := Rd.chk_val h
    obtain ⟨r, hr, h⟩ := row!_val h
    have hpe : a.eval p = .pointer (some ⟨(σ k).blk, (σ k).off + toN (ρ n) * 1, none⟩) := p1
    rcases cs with _ | ⟨c, _ | ⟨c', cs'⟩⟩
    · cases h
    · obtain ⟨hpu, h⟩ := Rd.chk_val h
      simp only [Bool.and_eq_true] at hpu
      have ec : r.c.cont σ ρ = r.c.cden ρ := RC.cont_pure hpu.2 σ ρ
      split at h
      · rename_i l hl
        cases h
        obtain ⟨s1, s2⟩ := hc (.setx r.c n 1 c nv) (by simp)
        obtain ⟨cs', a1, a2, _⟩ := hc (.isAgg nv l.length) (by simp)
        refine fin k (toN (ρ n) * 1) r hr (fun c hc' => hc c (by simp [hc'])) hpe hown { r with c := .lst ((List.range l.length).map fun i => .part nv i l.length) } (by rw [ec]; simp at *; omega) ?_ rfl rfl (by simp) _ _
        rw [ec]
        show ((List.range l.length).map fun i => A1.part nv i l.length).map (A1.conc σ ρ) = _
        rw [← a2, parts_cont a1]
        rw [a1] at s2
        simp only [Value.agg.injEq] at s2
        rw [s2]
        simp only [List.map_cons, List.map_nil, ← set_as_sets, A1.conc_pure hpu.1]
      · rename_i n' hl
        cases h
        obtain ⟨s1, s2⟩ := hc (.setx r.c n 1 c nv) (by simp)
        refine fin k (toN (ρ n) * 1) r hr (fun c hc' => hc c (by simp [hc'])) hpe hown { r with c := .all nv } (by rw [ec]; simp at *; omega) ?_ rfl rfl (by simp) _ _
        rw [ec]
        show (ρ nv).cells.toList = _
        rw [s2]
        simp only [Value.cells, List.map_cons, List.map_nil, ← set_as_sets, A1.conc_pure hpu.1]
      · cases h
    · cases h
  · cases h
end
end Go.Sx

/-
  Each operation's step is sound: addresses, arithmetic, builds, parts.
-/
namespace Go.Sx

section
variable {P : Program} {G : Glb} {C : Cfg} {w0 : World} {M : Ms} {N : Nat} {S : St} {σ : Nat → GV} {ρ : Nat → Value} {a : Act} {w : World}

theorem run_indexAt_arr {T n el s : Nat} (hu : P.underlying T = some (.array n el)) (hs : ∀ w, (sizeOf el).run P w = .ok s w) {b o : Nat} {k : IntKind} {i : Int} (h0 : 0 ≤ i) (h1 : i < n) (w : World) :
    (Instr.indexAt T (.pointer (some ⟨b, o, none⟩)) (.int k i)).run P w = .ok (.pointer (some ⟨b, o + i.toNat * s, none⟩)) w := by
  simp [Instr.indexAt, asIntOf, run_underlying hu, Instr.sureAddr, h0, h1, hs, Addr.add_mid]

theorem run_indexAt_slc {T el s : Nat} (hu : P.underlying T = some (.slice el)) (hs : ∀ w, (sizeOf el).run P w = .ok s w) {b o l c : Nat} {k : IntKind} {i : Int} (h0 : 0 ≤ i) (h1 : i < l) (w : World) :
    (Instr.indexAt T (.slice (some ⟨b, o, none⟩) l c) (.int k i)).run P w = .ok (.pointer (some ⟨b, o + i.toNat * s, none⟩)) w := by
  simp [Instr.indexAt, asIntOf, run_underlying hu, h0, h1, hs, Addr.add_mid]

theorem sound_indexAddr (hti : TIok P C.ti) (hg : Gam w0 M N S σ ρ a w) {o : Oper} {T : TypeId} {x i : Operand} (ho : o.op = .indexAddr T x i) {vx vi : AV} (hx : (opnd x).val S = some vx) (hi : (opnd i).val S = some vi) {nv : Nat} {out : Out}
    (h : (doIndexAddr C nv T vx vi).val S = some out) (hc : ∀ c ∈ out.cm, Cmd.holds P G ρ c) (hdst : ∀ t, o.dst = some t → t < N) :
    Stp P o a w fun a' w' => ∃ σ', Gam w0 M N (S.app (out.dl o.dst)) σ' ρ a' w' := by
  obtain ⟨x1, x2⟩ := opnd_val hg hx
  obtain ⟨i1, i2⟩ := opnd_val hg hi
  clear x2 i2
  have key : ∀ u, (Instr.indexAt T (vx.conc σ ρ) (vi.conc σ ρ)).run P w = .ok u w → (execOp a.eval o).run P w = .ok (.value u) w := fun u hu => by
    simp [execOp, ho, x1, i1, hu]
  unfold doIndexAddr at h
  split at h
  · cases h
  rename_i t ht
  obtain ⟨info, z, _, _, _, _, _, _, _, i8, _⟩ := hti T t ht
  split at h
  · rename_i n el k off hk
    rw [hk] at i8
    obtain ⟨hu, _, _⟩ := i8
    split at h
    · cases h
    rename_i e he
    have hs := ti_size hti he
    split at h
    · rename_i kk j
      replace h := Rd.chk_val h
      obtain ⟨hb, h⟩ := h
      simp only [Bool.and_eq_true, decide_eq_true_eq] at hb
      cases h
      refine sound_pure hg (v := .at (.one (.ptr k (off + j.toNat * e.size)))) (key _ ?_) trivial hdst _ _
      simp only [AV.conc, AT.conc, A1.conc]
      rw [run_indexAt_arr hu hs hb.1 hb.2, Nat.add_assoc]
    · rename_i m
      replace h := Rd.chk_val h
      obtain ⟨hb, h⟩ := h
      cases h
      obtain ⟨kk, j, e1, e2, e3⟩ := hc (.bnd m n) (by simp)
      have ho0 : off = 0 := by simpa using hb
      subst ho0
      refine sound_pure hg (v := .at (.one (.ptrx k m e.size))) (key _ ?_) trivial hdst _ _
      simp only [AV.conc, AT.conc, A1.conc, e1, toN]
      rw [run_indexAt_arr hu hs e2 e3, Nat.add_zero]
    · rename_i a1 _ _
      replace h := Rd.chk_val h
      obtain ⟨hb, h⟩ := h
      simp only [Bool.and_eq_true, beq_iff_eq] at hb
      cases h
      obtain ⟨kk, j, e1, e2, e3⟩ := hc (.bnd nv n) (by simp)
      have e4 : ρ nv = a1.den ρ := hc (.cp a1 nv) (by simp)
      have ho0 : off = 0 := hb.1
      subst ho0
      refine sound_pure hg (v := .at (.one (.ptrx k nv e.size))) (key _ ?_) trivial hdst _ _
      simp only [AV.conc, AT.conc]
      rw [A1.conc_pure hb.2, ← e4]
      simp only [A1.conc, e1, toN]
      rw [run_indexAt_arr hu hs e2 e3, Nat.add_zero]
    · cases h
  · rename_i el k hk
    rw [hk] at i8
    obtain ⟨hu, _⟩ := i8
    split at h
    · cases h
    rename_i e he
    have hs := ti_size hti he
    replace h := row!_val h
    obtain ⟨r, hr, h⟩ := h
    replace h := Rd.chk_val h
    obtain ⟨hes, h⟩ := h
    simp only [Bool.and_eq_true, beq_iff_eq, bne_iff_ne] at hes
    obtain ⟨hes, hne⟩ := hes
    have hrow := hg.row k r hr
    obtain ⟨hlen, hcap⟩ := hrow.len hne
    -- a slice with an element at j
    have fin : ∀ (kk : IntKind) (j : Int), 0 ≤ j → (j.toNat + 1) * r.es ≤ (r.c.cont σ ρ).length →
        (Instr.indexAt T ((σ k).slv) (.int kk j)).run P w = .ok (.pointer (some ⟨(σ k).blk, (σ k).off + j.toNat * e.size, none⟩)) w := by
      intro kk j h0 h1
      have hn : (σ k).nil = false := by
        cases hn : (σ k).nil with
        | false => rfl
        | true =>
          have h2 := (hrow.rd.nil hn).1
          rw [h2, List.length_nil] at h1
          have : 0 < (j.toNat + 1) * r.es := Nat.mul_pos (by omega) (by omega)
          omega
      have hj : j.toNat + 1 ≤ (σ k).len := by
        rw [hlen] at h1
        exact Nat.le_of_mul_le_mul_right h1 (by omega)
      simp only [GV.slv, hn, Bool.false_eq_true, if_false]
      exact run_indexAt_slc hu hs h0 (by omega) w
    have fdiv : ∀ (j : Int) (l : Nat), (r.c.cont σ ρ).length = l → 0 ≤ j → j < ((l / r.es : Nat) : Int) → (j.toNat + 1) * r.es ≤ (r.c.cont σ ρ).length := by
      intro j l hl h0 h1
      rw [hl]
      have : j.toNat + 1 ≤ l / r.es := by omega
      exact Nat.le_trans (Nat.mul_le_mul_right _ this) (Nat.div_mul_le_self _ _)
    split at h
    · rename_i l kk j hl
      replace h := Rd.chk_val h
      obtain ⟨hb, h⟩ := h
      simp only [Bool.and_eq_true, decide_eq_true_eq] at hb
      cases h
      refine sound_pure hg (v := .at (.one (.ptr k (j.toNat * e.size)))) (key _ ?_) trivial hdst _ _
      exact fin kk j hb.1 (by rw [hl]; simpa [RC.cont] using hb.2)
    · rename_i l m hl
      cases h
      obtain ⟨kk, j, e1, e2, e3⟩ := hc (.bnd m (l.length / r.es)) (by simp)
      refine sound_pure hg (v := .at (.one (.ptrx k m e.size))) (key _ ?_) trivial hdst _ _
      simp only [AV.conc, AT.conc, A1.conc, e1, toN]
      exact fin kk j e2 (fdiv j l.length (by rw [hl]; simp [RC.cont]) e2 e3)
    · rename_i l a1 _ _ hl
      replace h := Rd.chk_val h
      obtain ⟨hb, h⟩ := h
      cases h
      obtain ⟨kk, j, e1, e2, e3⟩ := hc (.bnd nv (l.length / r.es)) (by simp)
      have e4 : ρ nv = a1.den ρ := hc (.cp a1 nv) (by simp)
      refine sound_pure hg (v := .at (.one (.ptrx k nv e.size))) (key _ ?_) trivial hdst _ _
      simp only [AV.conc, AT.conc]
      rw [A1.conc_pure hb, ← e4]
      simp only [A1.conc, e1, toN]
      exact fin kk j e2 (fdiv j l.length (by rw [hl]; simp [RC.cont]) e2 e3)
    · rename_i n kk j hl
      replace h := Rd.chk_val h
      obtain ⟨hb, h⟩ := h
      simp only [decide_eq_true_eq] at hb
      cases h
      have e1 : (j.toNat + 1) * r.es ≤ (ρ n).cells.size := hc (.ltlen j.toNat n r.es) (by simp)
      refine sound_pure hg (v := .at (.one (.ptr k (j.toNat * e.size)))) (key _ ?_) trivial hdst _ _
      exact fin kk j hb (by rw [hl]; simpa [RC.cont] using e1)
    · rename_i n m hl
      cases h
      obtain ⟨kk, j, e1, e2, e3⟩ := hc (.bndl m n r.es) (by simp)
      refine sound_pure hg (v := .at (.one (.ptrx k m e.size))) (key _ ?_) trivial hdst _ _
      simp only [AV.conc, AT.conc, A1.conc, e1, toN]
      exact fin kk j e2 (by rw [hl]; simpa [RC.cont] using e3)
    · rename_i n a1 _ _ hl
      replace h := Rd.chk_val h
      obtain ⟨hb, h⟩ := h
      cases h
      obtain ⟨kk, j, e1, e2, e3⟩ := hc (.bndl nv n r.es) (by simp)
      have e4 : ρ nv = a1.den ρ := hc (.cp a1 nv) (by simp)
      refine sound_pure hg (v := .at (.one (.ptrx k nv e.size))) (key _ ?_) trivial hdst _ _
      simp only [AV.conc, AT.conc]
      rw [A1.conc_pure hb, ← e4]
      simp only [A1.conc, e1, toN]
      exact fin kk j e2 (by rw [hl]; simpa [RC.cont] using e3)
    · cases h
  · cases h

theorem sound_fieldAddr (hti : TIok P C.ti) (hg : Gam w0 M N S σ ρ a w) {o : Oper} {T f : Nat} {x : Operand} (ho : o.op = .fieldAddr T x f) {k off : Nat} (hx : (opnd x).val S = some (.at (.one (.ptr k off)))) {t : TI} (ht : C.ti T = some t) {fs : List (Nat × Nat)} (hk : t.k = .str fs)
    {d ty : Nat} (hf : fs[f]? = some (d, ty)) {t' : TI} (ht' : C.ti ty = some t') (hne : t'.size ≠ 0) (hdst : ∀ t, o.dst = some t → t < N) :
    Stp P o a w fun a' w' => ∃ σ', Gam w0 M N (S.app (({ v := .at (.one (.ptr k (off + d))) } : Out).dl o.dst)) σ' ρ a' w' := by
  have x1 := (opnd_val hg hx).1
  obtain ⟨info, z, _, _, _, _, _, _, _, i8, _⟩ := hti T t ht
  rw [hk] at i8
  obtain ⟨fields, hu, hfs, _⟩ := i8
  have hs := ti_size hti ht'
  obtain ⟨fl, hfl, h1, h2⟩ : ∃ fl, fields[f]? = some fl ∧ fl.offset = d ∧ fl.type = ty := by
    rw [← hfs, List.getElem?_map] at hf
    rw [Array.getElem?_toList] at hf
    cases hq : fields[f]? with
    | none => rw [hq] at hf; cases hf
    | some fl => rw [hq] at hf; simp at hf; exact ⟨fl, rfl, hf.1, hf.2⟩
  refine sound_pure hg (v := .at (.one (.ptr k (off + d)))) ?_ trivial hdst _ _
  have hz : (sizeOf fl.type).run P w = .ok t'.size w := by rw [h2]; exact hs w
  simp [execOp, ho, x1, AV.conc, AT.conc, A1.conc, Instr.fieldAt, run_underlying hu, hfl, Instr.sureAddr, fieldPlace, hz, hne, Addr.add_mid, h1, Nat.add_assoc]

theorem sound_nilCheck (hg : Gam w0 M N S σ ρ a w) {o : Oper} {x : Operand} (ho : o.op = .nilCheck x) {k off : Nat} (hx : (opnd x).val S = some (.at (.one (.ptr k off)))) (hdst : ∀ t, o.dst = some t → t < N) :
    Stp P o a w fun a' w' => ∃ σ', Gam w0 M N (S.app (({ v := .at (.one (.ptr k off)) } : Out).dl o.dst)) σ' ρ a' w' := by
  have x1 := (opnd_val hg hx).1
  refine sound_pure hg (v := .at (.one (.ptr k off))) ?_ trivial hdst _ _
  simp [execOp, ho, x1, AV.conc, AT.conc, A1.conc]

theorem sound_extract (hg : Gam w0 M N S σ ρ a w) {o : Oper} {x : Operand} {i : Nat} (ho : o.op = .extract x i) {v : AV} (hx : (opnd x).val S = some v) {nv : Nat} {out : Out} (h : (doExtract nv v i).val S = some out) (hc : ∀ c ∈ out.cm, Cmd.holds P G ρ c) (hdst : ∀ t, o.dst = some t → t < N) :
    Stp P o a w fun a' w' => ∃ σ', Gam w0 M N (S.app (out.dl o.dst)) σ' ρ a' w' := by
  obtain ⟨x1, x2⟩ := opnd_val hg hx
  unfold doExtract at h
  split at h
  · rename_i l
    split at h
    · rename_i y hy
      cases h
      refine sound_pure hg (v := .at y) ?_ (x2 y (List.mem_of_getElem? hy)) hdst _ _
      simp [execOp, ho, x1, AV.conc, Instr.extract, hy]
    · cases h
  · rename_i n
    cases h
    obtain ⟨vs, e1, e2⟩ := hc (.tupc n i nv) (by simp)
    refine sound_pure hg (v := v1 nv) ?_ trivial hdst _ _
    simp [execOp, ho, x1, AV.conc, AT.conc, A1.conc, e1, Instr.extract, e2, v1]
  · cases h

theorem eqGuard_tmp {op : BinOp} {T : TypeId} {x y : Operand} {u v : Value} {r : Value} {w : World} (h : (do eqGuard op T (.tmp 0) (.tmp 0) u v; binOp op T u v).run P w = .ok r w) (hne : u ≠ .nilIface) :
    (do eqGuard op T x y u v; binOp op T u v).run P w = .ok r w := by
  have : eqGuard op T x y u v = eqGuard op T (.tmp 0) (.tmp 0) u v := by
    unfold eqGuard
    cases u <;> cases v <;> first | rfl | exact absurd rfl hne
  rw [this]; exact h

theorem sound_bin (hg : Gam w0 M N S σ ρ a w) {o : Oper} {op : BinOp} {T T' : TypeId} {x y : Operand} (ho : o.op = .binOp op T x y T') {u v : AV} (hx : (opnd x).val S = some u) (hy : (opnd y).val S = some v) (hp : u.pure = true) (hq : v.pure = true) {nv : Nat}
    (hc : Cmd.holds P G ρ (.bin op T u v nv)) (hdst : ∀ t, o.dst = some t → t < N) :
    Stp P o a w fun a' w' => ∃ σ', Gam w0 M N (S.app (({ v := v1 nv, cm := [.bin op T u v nv], dv := 1 } : Out).dl o.dst)) σ' ρ a' w' := by
  have x1 := (opnd_val hg hx).1
  have y1 := (opnd_val hg hy).1
  refine sound_pure hg (v := v1 nv) ?_ trivial hdst _ _
  have := eqGuard_tmp (x := x) (y := y) (hc.2 w) hc.1
  have h2 : (execOp a.eval o).run P w = ((do eqGuard op T x y (u.den ρ) (v.den ρ); binOp op T (u.den ρ) (v.den ρ)).run P w).andThen fun r w' => .ok (.value r) w' := by
    simp only [execOp, ho, x1, y1, AV.conc_pure hp, AV.conc_pure hq, Sem.run_bind, Sem.run_pure]
  rw [h2, this]
  rfl

theorem wrap_small {i : Int} (h : small62 i = true) : IntKind.wrap .i64 i = i := by
  simp only [small62, Bool.and_eq_true, decide_eq_true_eq] at h
  unfold IntKind.wrap
  have hb : (IntKind.i64).bits = 64 := rfl
  have hs : (IntKind.i64).signed = true := rfl
  rw [hb, hs]
  simp only [Bool.true_and, decide_eq_true_eq, ge_iff_le, show (2:Int) ^ 64 = 18446744073709551616 by decide, show (2:Int) ^ (64 - 1) = 9223372036854775808 by decide]
  split <;> omega

theorem foldI_run {op : BinOp} {x y : Int} {v : Value} (h : foldI op x y = some v) (T : TypeId) (s t : Operand) (w : World) :
    (do eqGuard op T s t (.int .i64 x) (.int .i64 y); binOp op T (.int .i64 x) (.int .i64 y)).run P w = .ok v w := by
  have hg : (eqGuard op T s t (.int .i64 x) (.int .i64 y)).run P w = .ok () w := by
    unfold eqGuard
    split <;> rfl
  rw [Sem.run_bind, hg]
  show (binOp op T (.int .i64 x) (.int .i64 y)).run P w = .ok v w
  cases op <;> simp only [foldI, reduceCtorEq] at h
  case add => split at h <;> cases h; rename_i hs; simp [binOp, Op.intArith, wrap_small hs]
  case sub => split at h <;> cases h; rename_i hs; simp [binOp, Op.intArith, wrap_small hs]
  case mul => split at h <;> cases h; rename_i hs; simp [binOp, Op.intArith, wrap_small hs]
  case quo =>
    split at h <;> cases h
    rename_i hs
    simp only [Bool.and_eq_true, decide_eq_true_eq] at hs
    obtain ⟨⟨h1, h2⟩, h3⟩ := hs
    obtain ⟨a, rfl⟩ := Int.eq_ofNat_of_zero_le h1
    obtain ⟨b, rfl⟩ := Int.eq_ofNat_of_zero_le (Int.le_of_lt h2)
    have e : Int.tdiv (a : Int) (b : Int) = ((a / b : Nat) : Int) := rfl
    have hle : a / b ≤ a := Nat.div_le_self a b
    have h4 : small62 ((a / b : Nat) : Int) = true := by
      simp only [small62, Bool.and_eq_true, decide_eq_true_eq] at h3 ⊢
      generalize a / b = q at hle
      omega
    have hne : ¬ ((b : Int) = 0) := by omega
    simp only [binOp, Op.intDiv, ne_eq, not_true_eq_false, if_false, hne, e, wrap_small h4, Int.toNat_natCast]
    rfl
  case rem =>
    split at h <;> cases h
    rename_i hs
    simp only [Bool.and_eq_true, decide_eq_true_eq] at hs
    obtain ⟨h1, h2⟩ := hs
    obtain ⟨a, rfl⟩ := Int.eq_ofNat_of_zero_le h1
    obtain ⟨b, rfl⟩ := Int.eq_ofNat_of_zero_le (Int.le_of_lt h2)
    have e : Int.tmod (a : Int) (b : Int) = ((a % b : Nat) : Int) := rfl
    have hne : ¬ ((b : Int) = 0) := by omega
    simp only [binOp, Op.intDiv, ne_eq, not_true_eq_false, if_false, hne, e, Int.toNat_natCast]
    rfl
  all_goals (cases h; simp [binOp, Op.intCmp])

theorem fold2_spec {op : BinOp} {a b : AV} {v : Value} (h : fold2 op a b = some v) : ∃ x y, a = .at (.one (.lit (.int .i64 x))) ∧ b = .at (.one (.lit (.int .i64 y))) ∧ foldI op x y = some v := by
  unfold fold2 at h
  split at h
  · exact ⟨_, _, rfl, rfl, h⟩
  · cases h

theorem sound_fold (hg : Gam w0 M N S σ ρ a w) {o : Oper} {op : BinOp} {T T' : TypeId} {x y : Operand} (ho : o.op = .binOp op T x y T') {u v : AV} (hx : (opnd x).val S = some u) (hy : (opnd y).val S = some v) {r : Value} (h : fold2 op u v = some r) (hdst : ∀ t, o.dst = some t → t < N) :
    Stp P o a w fun a' w' => ∃ σ', Gam w0 M N (S.app (({ v := .at (.one (.lit r)) } : Out).dl o.dst)) σ' ρ a' w' := by
  have x1 := (opnd_val hg hx).1
  have y1 := (opnd_val hg hy).1
  obtain ⟨i, j, rfl, rfl, hf⟩ := fold2_spec h
  refine sound_pure hg (v := .at (.one (.lit r))) ?_ trivial hdst _ _
  have this := foldI_run (P := P) hf T x y w
  have h2 : (execOp a.eval o).run P w = ((do eqGuard op T x y (.int .i64 i) (.int .i64 j); binOp op T (.int .i64 i) (.int .i64 j)).run P w).andThen fun r w' => .ok (.value r) w' := by
    simp only [execOp, ho, x1, y1, AV.conc, AT.conc, A1.conc, Sem.run_bind, Sem.run_pure]
  rw [h2, this]
  rfl

theorem sound_un (hg : Gam w0 M N S σ ρ a w) {o : Oper} {op : UnOp} {T : TypeId} {x : Operand} (ho : o.op = .unOp op T x) {u : AV} (hx : (opnd x).val S = some u) (hp : u.pure = true) {nv : Nat}
    (hc : Cmd.holds P G ρ (.un op u nv)) (hdst : ∀ t, o.dst = some t → t < N) :
    Stp P o a w fun a' w' => ∃ σ', Gam w0 M N (S.app (({ v := v1 nv, cm := [.un op u nv], dv := 1 } : Out).dl o.dst)) σ' ρ a' w' := by
  have x1 := (opnd_val hg hx).1
  refine sound_pure hg (v := v1 nv) ?_ trivial hdst _ _
  simp only [execOp, ho, x1, AV.conc_pure hp, Sem.run_bind, Sem.run_pure]
  rw [hc w]
  rfl

theorem sound_conv (hg : Gam w0 M N S σ ρ a w) {o : Oper} {s d : TypeId} {x : Operand} (ho : o.op = .convert s d x) {u : AV} (hx : (opnd x).val S = some u) (hp : u.pure = true) {nv : Nat}
    (hc : Cmd.holds P G ρ (.conv s d u nv)) (hdst : ∀ t, o.dst = some t → t < N) :
    Stp P o a w fun a' w' => ∃ σ', Gam w0 M N (S.app (({ v := v1 nv, cm := [.conv s d u nv], dv := 1 } : Out).dl o.dst)) σ' ρ a' w' := by
  have x1 := (opnd_val hg hx).1
  refine sound_pure hg (v := v1 nv) ?_ trivial hdst _ _
  simp only [execOp, ho, x1, AV.conc_pure hp, Sem.run_bind, Sem.run_pure]
  rw [hc w]
  rfl

theorem sound_pick (hg : Gam w0 M N S σ ρ a w) {o : Oper} {c x y : Operand} (ho : o.op = .pick c x y) {vc u v : AV} (hcc : (opnd c).val S = some vc) (hx : (opnd x).val S = some u) (hy : (opnd y).val S = some v) {nv : Nat} {out : Out}
    (h : (doPick C nv vc u v).val S = some out) (hc : ∀ c ∈ out.cm, Cmd.holds P G ρ c) (hdst : ∀ t, o.dst = some t → t < N) :
    Stp P o a w fun a' w' => ∃ σ', Gam w0 M N (S.app (out.dl o.dst)) σ' ρ a' w' := by
  have c1 := (opnd_val hg hcc).1
  obtain ⟨x1, x2⟩ := opnd_val hg hx
  obtain ⟨y1, y2⟩ := opnd_val hg hy
  have key : ∀ t, vc.conc σ ρ = .bool t → (execOp a.eval o).run P w = .ok (.value (if t then u.conc σ ρ else v.conc σ ρ)) w := fun t ht => by
    cases t <;> simp [execOp, ho, c1, x1, y1, ht, asBool]
  unfold doPick at h
  split at h
  · rename_i t
    cases h
    have := key t rfl
    refine sound_pure hg (v := if t then u else v) (by rw [this]; cases t <;> rfl) (by cases t <;> assumption) hdst _ _
  · rename_i n
    split at h
    · rename_i t ht
      cases h
      have hb : ρ n = .bool t := hc (.isBool n t) (by simp)
      have := key t hb
      refine sound_pure hg (v := if t then u else v) (by rw [this]; cases t <;> rfl) (by cases t <;> assumption) hdst _ _
    · split at h
      · rename_i p q
        replace h := Rd.chk_val h
        obtain ⟨hp, h⟩ := h
        simp only [Bool.and_eq_true] at hp
        cases h
        obtain ⟨t, e1, e2⟩ := hc (.pick (.var n) p q nv) (by simp)
        have := key t e1
        refine sound_pure hg (v := v1 nv) ?_ trivial hdst _ _
        rw [this]
        simp only [AV.conc, AT.conc, v1, A1.conc_pure hp.1, A1.conc_pure hp.2]
        simp only [A1.conc, e2]
      · cases h
  · cases h

theorem sound_len (hg : Gam w0 M N S σ ρ a w) {o : Oper} {x : Operand} {T el : TypeId} (hT : P.underlying T = some (.slice el)) (ho : o.op = .call { callee := .builtin .len, args := #[x], argTypes := #[T] }) {v : AV} (hx : (opnd x).val S = some v) {nv : Nat} {out : Out}
    (h : (doLen nv v).val S = some out) (hc : ∀ c ∈ out.cm, Cmd.holds P G ρ c) (hdst : ∀ t, o.dst = some t → t < N) :
    Stp P o a w fun a' w' => ∃ σ', Gam w0 M N (S.app (out.dl o.dst)) σ' ρ a' w' := by
  have x1 := (opnd_val hg hx).1
  have key : ∀ b l c, v.conc σ ρ = .slice b l c → (execOp a.eval o).run P w = .ok (.value (.int .i64 l)) w := fun b l c hv => by
    simp [execOp, ho, resolve, invoke, builtin, Builtin.len_, run_underlying hT, x1, hv, goInt]
  unfold doLen at h
  split at h
  · cases h
    exact sound_pure hg (v := .at (.one (.lit (.int .i64 0)))) (key none 0 0 rfl) trivial hdst _ _
  · rename_i k
    replace h := row!_val h
    obtain ⟨r, hr, h⟩ := h
    replace h := Rd.chk_val h
    obtain ⟨hne, h⟩ := h
    simp only [bne_iff_ne] at hne
    obtain ⟨hlen, _⟩ := (hg.row k r hr).len hne
    have hl : (execOp a.eval o).run P w = .ok (.value (.int .i64 (σ k).len)) w := by
      cases hn : (σ k).nil with
      | true =>
        have := ((hg.row k r hr).rd.nil hn).2.1
        rw [this]
        exact key none 0 0 (by simp [AV.conc, AT.conc, A1.conc, GV.slv, hn])
      | false => exact key _ _ (σ k).cap (by simp only [AV.conc, AT.conc, A1.conc, GV.slv, hn]; rfl)
    split at h
    · rename_i l hl'
      cases h
      refine sound_pure hg (v := .at (.one (.lit (.int .i64 (l.length / r.es : Nat))))) ?_ trivial hdst _ _
      rw [hl]
      have : l.length = (σ k).len * r.es := by rw [hl'] at hlen; simpa [RC.cont] using hlen
      simp only [AV.conc, AT.conc, A1.conc]
      rw [this, Nat.mul_div_cancel _ (by omega)]
    · rename_i n hl'
      cases h
      obtain ⟨m, e1, e2⟩ := hc (.len n r.es nv) (by simp)
      refine sound_pure hg (v := v1 nv) ?_ trivial hdst _ _
      rw [hl]
      have : (ρ n).cells.size = (σ k).len * r.es := by rw [hl'] at hlen; simpa [RC.cont] using hlen
      have hm : m = (σ k).len := Nat.eq_of_mul_eq_mul_right (by omega : 0 < r.es) (by rw [← e1, ← this])
      simp only [v1, AV.conc, AT.conc, A1.conc, e2, hm]
    · cases h
  · cases h
end
end Go.Sx

/-
  Each operation's step is sound: values and slices that are built.
-/
namespace Go.Sx

theorem foldl_sets (off : Nat) : ∀ (vs : List Value) (k : Nat) (cs : Array Value), ((vs.zipIdx k).foldl (fun (cs : Array Value) (x : Value × Nat) => cs.setIfInBounds (off + x.2) x.1) cs).toList = sets cs.toList (off + k) vs := by
  intro vs
  induction vs with
  | nil => intro k cs; rfl
  | cons v r ih =>
    intro k cs
    simp only [List.zipIdx_cons, List.foldl_cons, sets]
    rw [ih (k + 1) _, Array.toList_setIfInBounds]
    rfl

theorem zip_sets (off : Nat) (vs : Array Value) (cs : Array Value) : vs.zipIdx.foldl (fun (cs : Array Value) (x : Value × Nat) => cs.setIfInBounds (off + x.2) x.1) cs = (sets cs.toList off vs.toList).toArray := by
  apply Array.ext'
  have := foldl_sets off vs.toList 0 cs
  rw [Nat.add_zero] at this
  rw [← Array.foldl_toList, Array.toList_zipIdx]
  exact this

theorem getElem_flatten_replicate {α : Type} (z : List α) : ∀ (n i : Nat), i < n * z.length → (List.replicate n z).flatten[i]? = z[i % z.length]? := by
  intro n
  induction n with
  | zero => intro i h; omega
  | succ n ih =>
    intro i h
    rw [List.replicate_succ, List.flatten_cons]
    by_cases hi : i < z.length
    · rw [List.getElem?_append_left hi, Nat.mod_eq_of_lt hi]
    · rw [List.getElem?_append_right (by omega), ih (i - z.length) (by rw [Nat.succ_mul] at h; omega)]
      rw [Nat.mod_eq_sub_mod (by omega : i ≥ z.length)]

theorem zeros_eq (z : Array Value) (n : Nat) (hz : 0 < z.size) : (Array.range (n * z.size)).map (fun i => z[i % z.size]!) = (List.replicate n z.toList).flatten.toArray := by
  apply Array.ext'
  apply List.ext_getElem?
  intro i
  simp only [Array.toList_map, Array.toList_range, List.getElem?_map]
  by_cases hi : i < n * z.size
  · rw [List.getElem?_range hi]
    have := getElem_flatten_replicate z.toList n i (by simpa using hi)
    rw [Option.map_some, this]
    have hm : i % z.size < z.size := Nat.mod_lt _ hz
    simp [hm]
  · rw [List.getElem?_eq_none (by simpa using hi)]
    rw [List.getElem?_eq_none (by simp [List.length_flatten]; omega)]
    rfl

section
variable {P : Program} {G : Glb} {C : Cfg} {w0 : World} {M : Ms} {N : Nat} {S : St} {σ : Nat → GV} {ρ : Nat → Value} {a : Act} {w : World}

theorem opnds_val (hg : Gam w0 M N S σ ρ a w) : ∀ {ps : List (Nat × Operand)} {vs : List (Nat × AV)}, (opnds ps).val S = some vs →
    ps.map (fun x => (x.1, a.eval x.2)) = vs.map (fun x => (x.1, x.2.conc σ ρ)) ∧ (∀ x ∈ vs, x.2.ok σ ρ) ∧ (∀ x ∈ vs, ∀ k ∈ x.2.gh, S.ment k ∨ k < 10000) := by
  intro ps
  induction ps with
  | nil => intro vs h; cases h; simp
  | cons p ps ih =>
    intro vs h
    obtain ⟨i, x⟩ := p
    obtain ⟨v, hv, h⟩ := Rd.val_bind_some h
    obtain ⟨vs', hvs, h⟩ := Rd.val_bind_some h
    cases h
    obtain ⟨h1, h2⟩ := opnd_val hg hv
    obtain ⟨h3, h4, h5⟩ := ih hvs
    refine ⟨by simp [h1, h3], ?_, ?_⟩
    · intro y hy
      rcases List.mem_cons.1 hy with rfl | hy
      · exact h2
      · exact h4 y hy
    · intro y hy
      rcases List.mem_cons.1 hy with rfl | hy
      · exact opnd_ment hv
      · exact h5 y hy

theorem opndl_val (hg : Gam w0 M N S σ ρ a w) : ∀ {ps : List Operand} {vs : List AV}, (opndl ps).val S = some vs →
    ps.map a.eval = vs.map (AV.conc σ ρ) ∧ (∀ x ∈ vs, x.ok σ ρ) ∧ (∀ x ∈ vs, ∀ k ∈ x.gh, S.ment k ∨ k < 10000) := by
  intro ps
  induction ps with
  | nil => intro vs h; cases h; simp
  | cons x ps ih =>
    intro vs h
    obtain ⟨v, hv, h⟩ := Rd.val_bind_some h
    obtain ⟨vs', hvs, h⟩ := Rd.val_bind_some h
    cases h
    obtain ⟨h1, h2⟩ := opnd_val hg hv
    obtain ⟨h3, h4, h5⟩ := ih hvs
    refine ⟨by simp [h1, h3], ?_, ?_⟩
    · intro y hy
      rcases List.mem_cons.1 hy with rfl | hy
      · exact h2
      · exact h4 y hy
    · intro y hy
      rcases List.mem_cons.1 hy with rfl | hy
      · exact opnd_ment hv
      · exact h5 y hy

theorem fillc_sound (hti : TIok P C.ti) {place : Nat → Option (Nat × TI)} {place' : Nat → Option (Nat × Nat)} (hpl : ∀ i o t, place i = some (o, t) → place' i = some (o, t.size) ∧ ∃ T, C.ti T = some t) :
    ∀ {parts : List (Nat × AV)} {l l' : List A1} {cm : List Cmd}, fillc place l parts = some (l', cm) → (∀ x ∈ parts, x.2.ok σ ρ) → (∀ c ∈ cm, Cmd.holds P G ρ c) → (∀ c ∈ l, (c.conc σ ρ).oneCell' = true) →
    Instr.fill place' (l.map (A1.conc σ ρ)).toArray (parts.map fun x => (x.1, x.2.conc σ ρ)) = some (l'.map (A1.conc σ ρ)).toArray ∧ (∀ c ∈ l', (c.conc σ ρ).oneCell' = true) ∧ l'.length = l.length ∧
      (∀ k ∈ l'.flatMap A1.gh, k ∈ l.flatMap A1.gh ∨ ∃ x ∈ parts, k ∈ x.2.gh) := by
  intro parts
  induction parts with
  | nil => intro l l' cm h _ _ hone; cases h; exact ⟨rfl, hone, rfl, fun k hk => .inl hk⟩
  | cons p parts ih =>
    intro l l' cm h hok hc hone
    obtain ⟨i, v⟩ := p
    simp only [fillc] at h
    split at h
    · cases h
    rename_i o t hp
    split at h
    · cases h
    rename_i cs cm1 hcs
    split at h
    · rename_i hcond
      simp only [Bool.and_eq_true, decide_eq_true_eq, beq_iff_eq] at hcond
      split at h
      · rename_i l2 cm2 hf
        cases h
        obtain ⟨hp', T, hT⟩ := hpl i o t hp
        obtain ⟨c1, c2, c3, c4⟩ := cellsOf_sound hti hT hcs (hok (i, v) (by simp)) (fun c hc' => hc c (by simp [hc']))
        have hone2 : ∀ c ∈ put l o cs, (c.conc σ ρ).oneCell' = true := fun c hc' => by
          simp only [put, List.mem_append] at hc'
          rcases hc' with (h | h) | h
          · exact hone c (List.mem_of_mem_take h)
          · exact c3 c h
          · exact hone c (List.mem_of_mem_drop h)
        obtain ⟨i1, i2, i3, i4⟩ := ih hf (fun x hx => hok x (by simp [hx])) (fun c hc' => hc c (by simp [hc'])) hone2
        refine ⟨?_, i2, ?_, ?_⟩
        · simp only [List.map_cons, Instr.fill, hp', c1]
          have hs1 : (cs.map (A1.conc σ ρ)).toArray.size = t.size := by simpa using c2
          have hs2 : ¬ (o + (cs.map (A1.conc σ ρ)).toArray.size > (l.map (A1.conc σ ρ)).toArray.size) := by simp; omega
          rw [if_neg (by simp only [hs1]; simp; have := hs2; simp at this; omega)]
          rw [zip_sets]
          rw [← put_cont hcond.1] 
          exact i1
        · rw [i3]; simp [put]; omega
        · intro k hk
          rcases i4 k hk with h | ⟨x, hx, h⟩
          · obtain ⟨c, hc', hk'⟩ := List.mem_flatMap.1 h
            simp only [put, List.mem_append] at hc'
            rcases hc' with (h | h) | h
            · exact .inl (List.mem_flatMap.2 ⟨c, List.mem_of_mem_take h, hk'⟩)
            · exact .inr ⟨(i, v), by simp, c4 k (List.mem_flatMap.2 ⟨c, h, hk'⟩)⟩
            · exact .inl (List.mem_flatMap.2 ⟨c, List.mem_of_mem_drop h, hk'⟩)
          · exact .inr ⟨x, by simp [hx], h⟩
      · cases h
    · cases h

theorem sound_build (hti : TIok P C.ti) (hg : Gam w0 M N S σ ρ a w) {o : Oper} {T : TypeId} {ps : Array (Nat × Operand)} (ho : o.op = .build T ps) {vs : List (Nat × AV)} (hx : (opnds ps.toList).val S = some vs) {out : Out}
    (h : (doBuild C T vs).val S = some out) (hc : ∀ c ∈ out.cm, Cmd.holds P G ρ c) (hdst : ∀ t, o.dst = some t → t < N) :
    Stp P o a w fun a' w' => ∃ σ', Gam w0 M N (S.app (out.dl o.dst)) σ' ρ a' w' := by
  obtain ⟨x1, x2, _⟩ := opnds_val hg hx
  unfold doBuild at h
  split at h
  · cases h
  rename_i t ht
  replace h := Rd.chk_val h
  obtain ⟨hk, h⟩ := h
  split at h
  · cases h
  rename_i l cm hf
  cases h
  obtain ⟨info, z, i1, i2, i3, i4, i5, i6, i7, i8, i9⟩ := hti T t ht
  have hz := i9 hk
  have hzc : (t.zero.map A1.lit).map (A1.conc σ ρ) = t.zero := by simp [List.map_map, Function.comp_def, A1.conc]
  have hone : ∀ c ∈ t.zero.map A1.lit, (c.conc σ ρ).oneCell' = true := fun c hc => by
    obtain ⟨v, hv, rfl⟩ := List.mem_map.1 hc
    exact i7 v hv
  have hb : P.built T (vs.map fun x => (x.1, x.2.conc σ ρ)) = some (l.map (A1.conc σ ρ)).toArray ∧ ∀ c ∈ l, (c.conc σ ρ).oneCell' = true := by
    cases hk' : t.k with
    | sc => rw [hk'] at hk; cases hk
    | u8 => rw [hk'] at hk; cases hk
    | stg => rw [hk'] at hk; cases hk
    | slc el => rw [hk'] at hk; cases hk
    | arr n el =>
      rw [hk'] at i8 hf
      obtain ⟨hu, _, hel⟩ := i8
      obtain ⟨e, he⟩ := Option.isSome_iff_exists.1 hel
      obtain ⟨einfo, _, e1, e2, _⟩ := hti el e he
      obtain ⟨f1, f2, _, _⟩ := fillc_sound (P := P) (G := G) (σ := σ) (ρ := ρ) hti (place' := fun i => some (i * einfo.size, einfo.size)) (fun i o t' hp => by
        simp only [placeOf, he] at hp
        split at hp
        · simp at hp; obtain ⟨rfl, rfl⟩ := hp; exact ⟨by rw [e2], el, he⟩
        · cases hp) hf x2 (fun c hc' => hc c (by simp [hc'])) hone
      refine ⟨?_, f2⟩
      rw [hzc] at f1
      simp only [Program.built, i1, hu, i4, e1, hz, Value.cells]
      exact f1
    | str fs =>
      rw [hk'] at i8 hf
      obtain ⟨fields, hu, hfs, _, hall⟩ := i8
      -- the places
      have hpl : ∀ (fl : List Field), (∀ f ∈ fl, (C.ti f.type).isSome = true) → ∃ places, fl.mapM (fun f => (P.info? f.type).map fun i => (f.offset, i.size)) = some places ∧ places.length = fl.length ∧
          ∀ (i : Nat) (f : Field), fl[i]? = some f → ∃ t', C.ti f.type = some t' ∧ places[i]? = some (f.offset, t'.size) := by
        intro fl
        induction fl with
        | nil => intro _; exact ⟨[], rfl, rfl, fun i f h => by simp at h⟩
        | cons f fl ih =>
          intro hall'
          obtain ⟨places, p1, p2, p3⟩ := ih fun f' hf' => hall' f' (by simp [hf'])
          obtain ⟨t', ht'⟩ := Option.isSome_iff_exists.1 (hall' f (by simp))
          obtain ⟨finfo, _, g1, g2, _⟩ := hti f.type t' ht'
          refine ⟨(f.offset, t'.size) :: places, ?_, by simp [p2], ?_⟩
          · simp [List.mapM_cons, g1, g2, p1]
          · intro i f' hf'
            cases i with
            | zero => simp at hf'; subst hf'; exact ⟨t', ht', rfl⟩
            | succ i => simp at hf'; obtain ⟨t2, h1, h2⟩ := p3 i f' hf'; exact ⟨t2, h1, by simpa using h2⟩
      obtain ⟨places, p1, p2, p3⟩ := hpl fields.toList (fun f hf' => hall (f.offset, f.type) (by rw [← hfs]; exact List.mem_map.2 ⟨f, hf', rfl⟩))
      obtain ⟨f1, f2, _, _⟩ := fillc_sound (P := P) (G := G) (σ := σ) (ρ := ρ) hti (place' := fun i => places.toArray[i]?) (fun i o t' hp => by
        simp only [placeOf] at hp
        split at hp
        · rename_i o' ty hi
          rw [← hfs, List.getElem?_map] at hi
          cases hq : fields.toList[i]? with
          | none => rw [hq] at hi; cases hi
          | some f =>
            rw [hq] at hi
            simp at hi
            obtain ⟨t2, h1, h2⟩ := p3 i f hq
            rw [← hi.2, h1] at hp
            simp at hp
            obtain ⟨rfl, rfl⟩ := hp
            exact ⟨by simpa [← hi.1] using h2, f.type, h1⟩
        · cases hp) hf x2 (fun c hc' => hc c (by simp [hc'])) hone
      refine ⟨?_, f2⟩
      rw [hzc] at f1
      simp only [Program.built, i1, hu, i4, p1, hz, Value.cells]
      exact f1
  obtain ⟨hb1, hb2⟩ := hb
  obtain ⟨e1, e2⟩ := etaAgg_sound (P := P) (G := G) (σ := σ) (ρ := ρ) (l := l) (fun c hc' => hc c (by simp [hc'])) hb2
  refine sound_pure hg (v := (etaAgg l).1) ?_ e2 hdst _ _
  rw [e1]
  have hx' : (ps.map fun (i, x) => (i, a.eval x)).toList = vs.map fun x => (x.1, x.2.conc σ ρ) := by rw [Array.toList_map]; exact x1
  have := run_build w T (ps.map fun (i, x) => (i, a.eval x)) _ (by rw [hx']; exact hb1)
  simp only [execOp, ho, Sem.run_bind, this, Result.andThen_ok, Sem.run_pure]

/-- a new slice over a block of its own -/
theorem Gam.new_slice (hg : Gam w0 M N S σ ρ a w) {dst : Option Nat} {ng : Nat} {rc : RC} {el : TypeId} {es len cap : Nat} {cells : Array Value} (hfresh : ¬ S.ment ng) (hng : 10000 ≤ ng) (hdst : ∀ t, dst = some t → t < N)
    (hgh : ∀ k ∈ rc.gh, S.ment k ∨ k < 10000) (hone : ∀ c ∈ rc.cont σ ρ, c.oneCell' = true) (hes : es ≠ 0) (hlen : (rc.cont σ ρ).length = len * es) (hle : len ≤ cap) (hcap : cap ≤ maxLen) (hsz : cells.size = cap * es)
    (htake : cells.toList.take (len * es) = rc.cont σ ρ) {w1 : World} (he : Ext w w1) (cm : List Cmd) (dv : Nat) :
    ∃ σ', Gam w0 M N (S.app (({ v := .at (.one (.sl ng)), rw := [(ng, some { c := rc, es, ap := some el })], wr := [(ng, true)], cm, dv } : Out).dl dst)) σ' ρ
      (a.put dst (.slice (some ⟨w1.heap.size, 0, none⟩) len cap)) (w1.alloc (.cells cells el)) := by
  have hne : ∀ k ∈ rc.gh, k ≠ ng := fun k hk e => by
    rcases hgh k hk with h | h
    · exact hfresh (e ▸ h)
    · omega
  refine ⟨upd σ ng ⟨w1.heap.size, 0, len, cap, false⟩, ?_⟩
  have ec : rc.cont (upd σ ng ⟨w1.heap.size, 0, len, cap, false⟩) ρ = rc.cont σ ρ := RC.cont_congr fun k hk => upd_ne (hne k hk)
  have hb : (w1.alloc (.cells cells el)).heap[w1.heap.size]? = some (.cells cells el (0, 0)) := heap_alloc_new w1 _
  have hslv : (⟨w1.heap.size, 0, len, cap, false⟩ : GV).slv = .slice (some ⟨w1.heap.size, 0, none⟩) len cap := rfl
  have hown : (w1.alloc (.cells cells el)).ownsRow w0.heap.size el es (.slice (some ⟨w1.heap.size, 0, none⟩) len cap) len (rc.cont σ ρ) :=
    ⟨hlen, .inr ⟨w1.heap.size, cap, cells, rfl, Nat.le_trans hg.frm.size he.size, hb, hle, hcap, hsz, htake⟩⟩
  have hra : (w1.alloc (.cells cells el)).rangeAt w1.heap.size 0 (rc.cont σ ρ) := fun j v hv => by
    rw [cell_of_row _ _ _ _ _ _ hb]
    rw [← htake, List.getElem?_take] at hv
    split at hv
    · simpa using hv
    · cases hv
  have hth : (w1.alloc (.cells cells el)).there w1.heap.size 0 (rc.cont σ ρ).length := fun j hj => by
    refine ⟨?_, frozen_of_row _ _ _ _ _ hb⟩
    rw [hra j _ (List.getElem?_eq_getElem hj) ]; rfl
  have hrow : RowOK w0.heap.size (upd σ ng ⟨w1.heap.size, 0, len, cap, false⟩) ρ (w1.alloc (.cells cells el)) ng { c := rc, es, ap := some el } := by
    refine ⟨⟨?_, ?_, ?_, ?_⟩, ?_, ?_⟩
    · intro h; rw [upd_self] at h; cases h
    · intro _; rw [upd_self]; simp
    · intro _; rw [upd_self]; show World.rangeAt _ _ _ (rc.cont _ ρ); rw [ec]; exact hra
    · intro c hc; have hc' : c ∈ rc.cont σ ρ := by rw [← ec]; exact hc
      exact hone c hc'
    · intro _; rw [upd_self]; show (rc.cont _ ρ).length = _ ∧ _; rw [ec]; exact ⟨hlen, hle⟩
    · intro e he'
      cases he'
      rw [upd_self, hslv]
      show _ ∧ World.ownsRow _ _ _ _ _ _ (rc.cont _ ρ)
      rw [ec]
      exact ⟨hes, hown⟩
  have := hg.add_row (d := ({ v := .at (.one (.sl ng)), rw := [(ng, some { c := rc, es, ap := some el })], wr := [(ng, true)], cm, dv } : Out).dl dst)
    (gv := ⟨w1.heap.size, 0, len, cap, false⟩) (w' := w1.alloc (.cells cells el)) hfresh hng rfl
    (fun k b h hb => by simp [Out.dl] at h; exact h.1) hdst ⟨he.os, he.tape, he.output, by simp; have := he.size; omega, fun k hk => by
      rw [heap_alloc_old w1 _ k (Nat.lt_of_lt_of_le hk he.size)]; exact he.block k hk⟩ hrow
    (fun _ _ => by
      refine ⟨?_, he.size⟩
      show World.there _ _ _ (rc.cont _ ρ).length
      rw [ec]; exact hth)
    (fun _ k' hk' hne' hn' => by
      have ho : S.own k' = true := by
        simp only [St.own, St.app, Out.dl, List.cons_append, List.nil_append, lk] at hk'
        rw [if_neg (fun e => hne' e.symm)] at hk'
        exact hk'
      obtain ⟨q, hq, _⟩ := hg.own k' ho
      have := (hg.row k' q hq).rd.live hn'
      have := he.size
      show w1.heap.size ≠ _
      omega) (fun _ => .inr (Nat.le_trans hg.frm.size he.size)) trivial
  have hcv : (({ v := .at (.one (.sl ng)), rw := [(ng, some { c := rc, es, ap := some el })], wr := [(ng, true)], cm, dv } : Out).dl dst).v.conc (upd σ ng ⟨w1.heap.size, 0, len, cap, false⟩) ρ = .slice (some ⟨w1.heap.size, 0, none⟩) len cap := by
    simp [Out.dl, AV.conc, AT.conc, A1.conc, upd_self, GV.slv]
  rw [hcv] at this
  exact this

theorem maxLen_val : (100000 : Nat) ≤ maxLen := by unfold maxLen; omega

theorem run_buildSlice {T el len s : Nat} {z : Value} (hu : P.underlying T = some (.slice el)) (hsz : (sizeOf el).run P w = .ok s w) (h24 : ¬ (16777216 < len * s)) (hzv : (zeroValue el).run P w = .ok z w) {pa : Array (Nat × Value)} {cells : Array Value}
    (hfill : Instr.fill (fun i => some (i * s, s)) ((Array.range (len * s)).map fun i => (if len * s = 0 then #[] else z.cells)[i % (if len * s = 0 then (#[] : Array Value) else z.cells).size]!) pa.toList = some cells) :
    (Instr.buildSlice T len pa).run P w = .ok (.slice (some ⟨w.heap.size, 0, none⟩) len len) (w.alloc (.cells cells el)) := by
  have h24' : ¬ (len * s > 2 ^ 24) := by simpa using h24
  unfold Instr.buildSlice
  rw [Sem.run_bind, run_underlying hu]
  simp only [Result.andThen_ok]
  rw [Sem.run_bind, hsz]
  simp only [Result.andThen_ok, if_neg h24']
  by_cases h0 : len * s = 0
  · simp only [h0, if_true] at hfill ⊢
    rw [Sem.run_bind]
    simp only [Sem.run_pure, Result.andThen_ok]
    rw [hfill]
    simp [newRow]
  · simp only [h0, if_false] at hfill ⊢
    simp only [Sem.run_bind, hzv, Result.andThen_ok, Sem.run_pure]
    rw [hfill]
    simp [newRow]

theorem sound_buildSlice (hti : TIok P C.ti) (hg : Gam w0 M N S σ ρ a w) {o : Oper} {T len : Nat} {ps : Array (Nat × Operand)} (ho : o.op = .buildSlice T len ps) {vs : List (Nat × AV)} (hx : (opnds ps.toList).val S = some vs) {ng : Nat} (hfresh : ¬ S.ment ng) (hng : 10000 ≤ ng) {out : Out}
    (h : (doBuildSlice C ng T len vs).val S = some out) (hc : ∀ c ∈ out.cm, Cmd.holds P G ρ c) (hdst : ∀ t, o.dst = some t → t < N) :
    Stp P o a w fun a' w' => ∃ σ', Gam w0 M N (S.app (out.dl o.dst)) σ' ρ a' w' := by
  obtain ⟨x1, x2, x3⟩ := opnds_val hg hx
  unfold doBuildSlice at h
  split at h
  · rename_i el sz by' zr ht
    obtain ⟨_, _, _, _, _, _, _, _, _, ⟨hu, _⟩, _⟩ := hti T _ ht
    split at h
    · cases h
    rename_i e he
    replace h := Rd.chk_val h
    obtain ⟨hcond, h⟩ := h
    simp only [Bool.and_eq_true, decide_eq_true_eq, bne_iff_ne, beq_iff_eq] at hcond
    obtain ⟨⟨⟨c1, c2⟩, c3⟩, c4⟩ := hcond
    split at h
    · cases h
    rename_i l cm hf
    cases h
    obtain ⟨einfo, z, e1, e2, e3, e4, e5, e6, e7, _⟩ := hti el e he
    have hlz : ((List.replicate len (e.zero.map A1.lit)).flatten).map (A1.conc σ ρ) = (List.replicate len e.zero).flatten := by
      rw [List.map_flatten, List.map_replicate, List.map_map]
      congr 2
      simp [Function.comp_def, A1.conc]
    obtain ⟨f1, f2, f3, f4⟩ := fillc_sound (P := P) (G := G) (σ := σ) (ρ := ρ) hti (place' := fun i => some (i * e.size, e.size)) (fun i o t' hp => by
      split at hp
      · simp at hp; obtain ⟨rfl, rfl⟩ := hp; exact ⟨rfl, el, he⟩
      · cases hp) hf x2 (fun c hc' => hc c (by simp [hc'])) (fun c hc' => by
        obtain ⟨y, hy, hc'⟩ := List.mem_flatten.1 hc'
        rw [(List.mem_replicate.1 hy).2] at hc'
        obtain ⟨v, hv, rfl⟩ := List.mem_map.1 hc'
        exact e7 v hv)
    rw [hlz] at f1
    have hllen : l.length = len * e.size := by rw [f3]; simp [List.length_flatten, c4]
    obtain ⟨σ', hs⟩ := hg.new_slice (dst := o.dst) (ng := ng) (rc := .lst l) (el := el) (es := e.size) (len := len) (cap := len) (cells := (l.map (A1.conc σ ρ)).toArray) hfresh hng hdst
      (fun k hk => by
        rcases f4 k hk with h | ⟨x, hx', h⟩
        · obtain ⟨c, hc', hk'⟩ := List.mem_flatMap.1 h
          obtain ⟨y, hy, hc'⟩ := List.mem_flatten.1 hc'
          rw [(List.mem_replicate.1 hy).2] at hc'
          obtain ⟨v, hv, rfl⟩ := List.mem_map.1 hc'
          simp [A1.gh] at hk'
        · exact x3 x hx' k h)
      (fun c hc' => by
        obtain ⟨c0, h0, rfl⟩ := List.mem_map.1 hc'
        exact f2 c0 h0) c1 (by simpa [RC.cont] using hllen) (Nat.le_refl _) (by have := maxLen_val; omega) (by simpa using hllen)
      (by
        show ((l.map (A1.conc σ ρ)).toArray.toList).take (len * e.size) = l.map (A1.conc σ ρ)
        rw [List.take_of_length_le (by simp; omega)]) (Ext.refl w) cm 0
    refine .value (v := .slice (some ⟨w.heap.size, 0, none⟩) len len) (w' := w.alloc (.cells (l.map (A1.conc σ ρ)).toArray el)) ?_ ⟨σ', hs⟩
    have hx' : (ps.map fun (i, x) => (i, a.eval x)).toList = vs.map fun x => (x.1, x.2.conc σ ρ) := by rw [Array.toList_map]; exact x1
    have hsz : (sizeOf el).run P w = .ok e.size w := ti_size hti he w
    have hzv : (zeroValue el).run P w = .ok z w := by simp [zeroValue, typeInfo, e1, e4]
    have hzs : z.cells.size = e.size := by rw [← c4, ← e5]; simp
    have h24 : ¬ (16777216 < len * e.size) := by
      have := Nat.mul_le_mul c2 c3
      omega
    have hfill : Instr.fill (fun i => some (i * e.size, e.size)) ((Array.range (len * e.size)).map fun i => (if len * e.size = 0 then #[] else z.cells)[i % (if len * e.size = 0 then (#[] : Array Value) else z.cells).size]!) (vs.map fun x => (x.1, x.2.conc σ ρ)) = some (l.map (A1.conc σ ρ)).toArray := by
      rw [← f1]
      congr 1
      by_cases h0 : len * e.size = 0
      · have : len = 0 := by rcases Nat.mul_eq_zero.1 h0 with h | h <;> omega
        subst this
        simp
      · simp only [h0, if_false]
        rw [← hzs, zeros_eq z.cells len (by rw [hzs]; omega), e5]
    have hrun := run_buildSlice (P := P) (w := w) (T := T) (el := el) (len := len) (s := e.size) (z := z) hu hsz h24 hzv (pa := ps.map fun (i, x) => (i, a.eval x)) (by rw [hx']; exact hfill)
    simp only [execOp, ho, Sem.run_bind, hrun, Result.andThen_ok, Sem.run_pure]
  · cases h
end
end Go.Sx

/-
  Each operation's step is sound: slices of slices' rows, appends, calls.
-/
namespace Go.Sx
open Go.RowKit (Below)

theorem map_false_mem {l : List Nat} {k : Nat} {b : Bool} (h : (k, b) ∈ l.map fun k => (k, false)) : b = false := by
  obtain ⟨_, _, e⟩ := List.mem_map.1 h
  cases e; rfl

theorem ownsRow_mono {w : World} {b b' e size v n xs} (h : w.ownsRow b e size v n xs) (hb : b' ≤ b) : w.ownsRow b' e size v n xs := by
  obtain ⟨h1, h2⟩ := h
  refine ⟨h1, ?_⟩
  rcases h2 with h2 | ⟨g, cap, cur, a1, a2, a3⟩
  · exact .inl h2
  · exact .inr ⟨g, cap, cur, a1, Nat.le_trans hb a2, a3⟩

/-- an owned row may be written -/
theorem ownsRow_there {w : World} {b e size n : Nat} {g : GV} {xs : List Value} (h : w.ownsRow b e size g.slv n xs) (hn : g.nil = false) : g.off = 0 ∧ g.len = n ∧ b ≤ g.blk ∧ g.blk < w.heap.size ∧ w.there g.blk g.off xs.length ∧ w.rangeAt g.blk g.off xs := by
  obtain ⟨h1, h2⟩ := h
  have hs : g.slv = .slice (some ⟨g.blk, g.off, none⟩) g.len g.cap := by simp [GV.slv, hn]
  rcases h2 with ⟨h2, _⟩ | ⟨g', cap, cur, a1, a2, a3, a4, a5, a6, a7⟩
  · rw [hs] at h2; cases h2
  · rw [hs] at a1
    simp only [Value.slice.injEq, Option.some.injEq, Addr.mk.injEq, and_true] at a1
    obtain ⟨⟨e1, e2⟩, e3, _⟩ := a1
    subst e1
    rw [e2]
    have hra : w.rangeAt g.blk 0 xs := fun j v hv => by
      rw [cell_of_row _ _ _ _ _ _ a3]
      rw [← a7, List.getElem?_take] at hv
      split at hv
      · simpa using hv
      · cases hv
    refine ⟨rfl, e3, a2, ?_, fun j hj => ⟨?_, frozen_of_row _ _ _ _ _ a3⟩, hra⟩
    · exact (Array.getElem?_eq_some_iff.1 a3).1
    · rw [hra j _ (List.getElem?_eq_getElem hj)]; rfl

section
variable {P : Program} {G : Glb} {C : Cfg} {w0 : World} {M : Ms} {N : Nat} {S : St} {σ : Nat → GV} {ρ : Nat → Value} {a : Act} {w : World}

theorem own_app {d : Dl} {k : Nat} (h : (S.app d).own k = true) (hwr : ∀ b, (k, b) ∈ d.wr → b = false) : S.own k = true ∧ ∀ b, (k, b) ∉ d.wr := by
  simp only [St.own, St.app, lk_append] at h
  cases hl : lk d.wr k with
  | some b =>
    rw [hl] at h
    have := hwr b (lk_some_mem hl)
    subst this
    simp at h
  | none =>
    rw [hl] at h
    refine ⟨by simpa [St.own] using h, fun b hb => ?_⟩
    have : ∀ (l : List (Nat × Bool)), (k, b) ∈ l → lk l k ≠ none := by
      intro l
      induction l with
      | nil => intro h; cases h
      | cons x l ih =>
        intro h
        obtain ⟨k', b'⟩ := x
        simp only [lk]
        split
        · simp
        · rename_i hne
          rcases List.mem_cons.1 h with h | h
          · cases h; exact absurd rfl hne
          · exact ih h
    exact this _ hb hl

/-- a step that makes no row of the state's; memory may grow; rows may be given up -/
theorem Gam.ext_step (hg : Gam w0 M N S σ ρ a w) {d : Dl} {w' : World} (hrw : d.rw = []) (hwr : ∀ k b, (k, b) ∈ d.wr → b = false) (hd : ∀ t, d.dst = some t → t < N) (hv : d.v.ok σ ρ) (he : Ext w w') :
    Gam w0 M N (S.app d) σ ρ (a.put d.dst (d.v.conc σ ρ)) w' := by
  have hrow : ∀ k, (S.app d).row k = S.row k := fun k => by simp [St.row, St.app, hrw]
  exact {
    defers := by rw [put_defers]; exact hg.defers
    size := by rw [put_size]; exact hg.size
    slot := slots_step hg (fun _ _ => rfl) hd hv
    row := fun k r h => (hg.row k r (by rw [← hrow]; exact h)).ext he
    own := fun k h => by
      obtain ⟨r, h1, h2⟩ := hg.own k (own_app h (hwr k)).1
      refine ⟨r, by rw [hrow]; exact h1, fun hn => ?_⟩
      obtain ⟨h3, h4, h5⟩ := h2 hn
      exact ⟨there_ext h3 ((hg.row k r h1).rd.live hn) he, h4, fun k' r' hne hr' => h5 k' r' hne (by rw [← hrow]; exact hr')⟩
    glob := hg.glob
    src := fun k r h => hg.src k r (by rw [← hrow]; exact h)
    frm := hg.frm.ext he }

theorem dropOw_mem {k x : Nat} {o b : Bool} (h : (x, b) ∈ dropOw k o) : b = false := by
  unfold dropOw at h
  split at h
  · simp at h; exact h.2
  · cases h

/-- a view of a row -/
theorem Gam.view (hg : Gam w0 M N S σ ρ a w) {dst : Option Nat} {k ng : Nat} {r : Row} (hr : S.row k = some r) (hfresh : ¬ S.ment ng) (hng : 10000 ≤ ng) (hdst : ∀ t, dst = some t → t < N) {rc : RC} {es : Nat} {gv : GV}
    (hgh : ∀ k ∈ rc.gh, S.ment k) (_ : es ≠ 0) (hn : gv.nil = (σ k).nil) (hblk : gv.blk = (σ k).blk) (hone : ∀ c ∈ rc.cont σ ρ, c.oneCell' = true) (hra : gv.nil = false → w.rangeAt gv.blk gv.off (rc.cont σ ρ))
    (hnil : gv.nil = true → rc.cont σ ρ = [] ∧ gv.len = 0 ∧ gv.cap = 0) (hlen : (rc.cont σ ρ).length = gv.len * es) (hcap : gv.len ≤ gv.cap) (cm : List Cmd) (dv : Nat) :
    ∃ σ', Gam w0 M N (S.app (({ v := .at (.one (.sl ng)), rw := [(ng, some { c := rc, es, ap := none })], wr := dropOw k (S.own k), cm, dv } : Out).dl dst)) σ' ρ
      (a.put dst gv.slv) w := by
  have hne : ∀ k ∈ rc.gh, k ≠ ng := fun k hk e => hfresh (e ▸ hgh k hk)
  have ec : rc.cont (upd σ ng gv) ρ = rc.cont σ ρ := RC.cont_congr fun k hk => upd_ne (hne k hk)
  have hkng : k ≠ ng := fun e => hfresh (.inr (.inl ⟨k, r, hr, .inl e.symm⟩))
  refine ⟨upd σ ng gv, ?_⟩
  have := hg.add_row (d := ({ v := .at (.one (.sl ng)), rw := [(ng, some { c := rc, es, ap := none })], wr := dropOw k (S.own k), cm, dv } : Out).dl dst)
    (gv := gv) (w' := w) hfresh hng rfl (fun k' b h hb => by have := dropOw_mem (show (k', b) ∈ dropOw k (S.own k) from h); rw [this] at hb; cases hb) hdst (Ext.refl w)
    ⟨⟨by rw [upd_self]; show _ → rc.cont _ ρ = [] ∧ _; rw [ec]; exact hnil, by rw [upd_self, hn, hblk]; exact (hg.row k r hr).rd.live, by rw [upd_self]; show _ → World.rangeAt _ _ _ (rc.cont _ ρ); rw [ec]; exact hra, by
        show ∀ c ∈ rc.cont _ ρ, _; rw [ec]; exact hone⟩, by
        intro _; rw [upd_self]; show (rc.cont _ ρ).length = _ ∧ _; rw [ec]; exact ⟨hlen, hcap⟩, fun e h => by cases h⟩
    (fun h => by
      have := (own_app h (fun b hb => dropOw_mem (by simpa [Out.dl] using hb))).1
      exact absurd (.inr (.inr this)) hfresh)
    (fun hgn k' hk' hne' hn' => by
      obtain ⟨h1, h2⟩ := own_app hk' (fun b hb => dropOw_mem (by simpa [Out.dl] using hb))
      have hkk : k' ≠ k := fun e => h2 false (by rw [e] at h1; simp [Out.dl, e, dropOw, h1])
      obtain ⟨q, hq, h3⟩ := hg.own k' h1
      rw [hblk]
      exact (h3 hn').2.2 k r (fun e => hkk e.symm) hr (by rw [← hn]; exact hgn))
    (fun hgn => by rw [hblk]; exact hg.src k r hr (by rw [← hn]; exact hgn)) trivial
  have hcv : (({ v := .at (.one (.sl ng)), rw := [(ng, some { c := rc, es, ap := none })], wr := dropOw k (S.own k), cm, dv } : Out).dl dst).v.conc (upd σ ng gv) ρ = gv.slv := by
    simp [Out.dl, AV.conc, AT.conc, A1.conc, upd_self]
  rw [hcv] at this
  exact this

theorem optNat_val {d n : Nat} {x : Option AV} {y : Option Value} (hxy : y = x.map (AV.conc σ ρ)) (h : optNat d x = some n) : (y = none ∧ n = d) ∨ (∃ k, y = some (.int k (n : Int))) := by
  cases x with
  | none => simp [optNat] at h; exact .inl ⟨by rw [hxy]; rfl, h.symm⟩
  | some v =>
    right
    simp only [optNat] at h
    unfold litNat at h
    split at h
    · rename_i k j
      split at h
      · simp at h
        refine ⟨k, ?_⟩
        rw [hxy]
        simp only [Option.map_some, AV.conc, AT.conc, A1.conc]
        rw [← h]
        congr 2
        omega
      · cases h
    · cases h

theorem run_sliceBound {k : IntKind} {n y : Nat} {code : BoundsCode} (h : n ≤ y) (w : World) : (Instr.sliceBound (.int k (n : Int)) y code).run P w = .ok n w := by
  simp [Instr.sliceBound, asIntOf, h]

theorem run_sliceBounds {isS : Bool} {len cap l h m : Nat} {lo hi mx : Option Value} (hm : (mx = none ∧ m = cap) ∨ (∃ k, mx = some (.int k (m : Int)))) (hh : (hi = none ∧ h = len ∧ mx = none) ∨ (∃ k, hi = some (.int k (h : Int)))) (hl : (lo = none ∧ l = 0) ∨ (∃ k, lo = some (.int k (l : Int))))
    (h1 : l ≤ h) (h2 : h ≤ m) (h3 : m ≤ cap) (w : World) : (Instr.sliceBounds isS len cap lo hi mx).run P w = .ok (l, h, m) w := by
  unfold Instr.sliceBounds
  rcases hm with ⟨rfl, rfl⟩ | ⟨k, rfl⟩ <;> rcases hh with ⟨rfl, rfl, hmx⟩ | ⟨k', rfl⟩ <;> rcases hl with ⟨rfl, rfl⟩ | ⟨k'', rfl⟩ <;> first | (cases hmx; done) | simp [run_sliceBound, h1, h2, h3]

theorem oo_val (hg : Gam w0 M N S σ ρ a w) {x : Option Operand} {v : Option AV} (h : (dOp.oo x).val S = some v) : x.map a.eval = v.map (AV.conc σ ρ) := by
  cases x with
  | none => cases h; rfl
  | some x =>
    obtain ⟨u, hu, h⟩ := Rd.bind_val h
    cases h
    simp [(opnd_val hg hu).1]

theorem sound_slice (hti : TIok P C.ti) (hg : Gam w0 M N S σ ρ a w) {o : Oper} {T : TypeId} {x : Operand} {lo hi mx : Option Operand} (ho : o.op = .slice T x lo hi mx) {v : AV} (hx : (opnd x).val S = some v) {vl vh vm : Option AV}
    (hl : (dOp.oo lo).val S = some vl) (hh : (dOp.oo hi).val S = some vh) (hm : (dOp.oo mx).val S = some vm) {nv ng : Nat} (hfresh : ¬ S.ment ng) (hng : 10000 ≤ ng) {out : Out} (h : (doSlice C nv ng T v vl vh vm).val S = some out) (hc : ∀ c ∈ out.cm, Cmd.holds P G ρ c) (hdst : ∀ t, o.dst = some t → t < N) :
    Stp P o a w fun a' w' => ∃ σ', Gam w0 M N (S.app (out.dl o.dst)) σ' ρ a' w' := by
  have x1 := (opnd_val hg hx).1
  have e1 := oo_val hg hl
  have e2 := oo_val hg hh
  have e3 := oo_val hg hm
  have key : ∀ u, (Instr.sliceAt T (v.conc σ ρ) (lo.map a.eval) (hi.map a.eval) (mx.map a.eval)).run P w = .ok u w → (execOp a.eval o).run P w = .ok (.value u) w := fun u hu => by
    simp [execOp, ho, x1, hu]
  unfold doSlice at h
  split at h
  · cases h
  rename_i t ht
  obtain ⟨info, z, _, _, _, _, _, _, _, i8, _⟩ := hti T t ht
  split at h
  · rename_i n el k off hk
    rw [hk] at i8
    obtain ⟨hu, _, _⟩ := i8
    split at h
    · rename_i e l h' m he hl' hh' hm'
      have hs := ti_size hti he
      replace h := Rd.chk_val h
      obtain ⟨hb, h⟩ := h
      simp only [Bool.and_eq_true, decide_eq_true_eq, bne_iff_ne] at hb
      obtain ⟨⟨⟨⟨⟨hb1, hb2⟩, hb3⟩, hb4⟩, hn0⟩, hmh⟩ := hb
      simp only [Rd.val] at h
      replace h := row!_val h
      obtain ⟨r, hr, h⟩ := h
      split at h
      · rename_i cs hcs
        replace h := Rd.chk_val h
        obtain ⟨hlen, h⟩ := h
        simp only [decide_eq_true_eq] at hlen
        cases h
        have ec : r.c.cont σ ρ = cs.map (A1.conc σ ρ) := by rw [hcs]; rfl
        have hrow := hg.row k r hr
        have hle : l * e.size ≤ n * e.size := Nat.mul_le_mul_right _ (by omega)
        have hle2 : l * e.size + (h' - l) * e.size ≤ n * e.size := by rw [← Nat.add_mul]; exact Nat.mul_le_mul_right _ (by omega)
        have hn : n ≠ 0 → (σ k).nil = false := fun hn0 => by
          cases hq : (σ k).nil with
          | false => rfl
          | true =>
            have := (hrow.rd.nil hq).1
            rw [ec] at this
            have h0 : cs.length = 0 := by simpa using congrArg List.length this
            have : 0 < n * e.size := Nat.mul_pos (by omega) (by omega)
            omega
        have hnil := hn hn0
        let gv : GV := ⟨(σ k).blk, if m = l then (σ k).off + off else (σ k).off + off + l * e.size, h' - l, m - l, false⟩
        have hcont : (RC.lst ((cs.drop (off + l * e.size)).take ((h' - l) * e.size))).cont σ ρ = ((r.c.cont σ ρ).drop (off + l * e.size)).take ((h' - l) * e.size) := by
          rw [ec]; simp [RC.cont, List.map_take, List.map_drop]
        obtain ⟨σ', hv'⟩ := hg.view (dst := o.dst) (k := k) (ng := ng) hr hfresh hng hdst (rc := .lst ((cs.drop (off + l * e.size)).take ((h' - l) * e.size))) (es := e.size) (gv := gv)
          (fun k' hk' => by
            obtain ⟨c, hc', hk'⟩ := List.mem_flatMap.1 hk'
            exact .inr (.inl ⟨k, r, hr, .inr (by rw [hcs]; exact List.mem_flatMap.2 ⟨c, List.mem_of_mem_drop (List.mem_of_mem_take hc'), hk'⟩)⟩)) hb4 (by rw [hnil]) rfl
          (fun c hc' => by rw [hcont] at hc'; exact hrow.rd.one c (List.mem_of_mem_drop (List.mem_of_mem_take hc')))
          (fun _ => by
            rw [hcont]
            by_cases hml : m = l
            · have : h' - l = 0 := by omega
              rw [this, Nat.zero_mul, List.take_zero]
              intro j v hv; simp at hv
            · have := rangeAt_sub (hrow.rd.at_ hnil) (off + l * e.size) ((h' - l) * e.size)
              show World.rangeAt _ _ (if m = l then _ else _) _
              rw [if_neg hml, Nat.add_assoc]; exact this)
          (fun hf => by cases hf) (by
            rw [hcont, ec]; simp only [List.length_take, List.length_drop, List.length_map]
            show min _ _ = (h' - l) * e.size
            omega) (by show h' - l ≤ m - l; omega) [] 0
        refine .value (v := gv.slv) (w' := w) (key _ ?_) ⟨σ', hv'⟩
        have hbnd := run_sliceBounds (P := P) (isS := false) (len := n) (cap := n) (l := l) (h := h') (m := m) (lo := lo.map a.eval) (hi := hi.map a.eval) (mx := mx.map a.eval)
          (by rcases optNat_val e3 hm' with ⟨q1, q2⟩ | q
              · exact .inl ⟨q1, q2⟩
              · exact .inr q)
          (by rcases optNat_val e2 hh' with ⟨q1, q2⟩ | q
              · rcases optNat_val e3 hm' with ⟨p1, p2⟩ | p
                · exact .inl ⟨q1, q2, p1⟩
                · exfalso
                  obtain ⟨pk, p⟩ := p
                  cases vh with
                  | some _ => rw [e2] at q1; cases q1
                  | none => cases vm with
                    | some _ => simp at hmh
                    | none => rw [e3] at p; cases p
              · exact .inr q)
          (by rcases optNat_val e1 hl' with ⟨q1, q2⟩ | q
              · exact .inl ⟨q1, q2⟩
              · exact .inr q) hb1 hb2 hb3 w
        simp only [Instr.sliceAt, AV.conc, AT.conc, A1.conc, Sem.run_bind, run_underlying hu, Result.andThen_ok, Instr.sureAddr, Sem.run_pure, hbnd, hs]
        show Result.ok _ _ = Result.ok (gv.slv) w
        simp only [GV.slv, gv]
        by_cases hml : m = l <;> simp [hml, Addr.add_mid]
      · cases h
    · cases h
  · rename_i el k hk
    rw [hk] at i8
    obtain ⟨hu, _⟩ := i8
    split at h
    · cases h
    rename_i e he
    have hs := ti_size hti he
    simp only [Rd.val] at h
    replace h := row!_val h
    obtain ⟨r, hr, h⟩ := h
    replace h := Rd.chk_val h
    obtain ⟨hcond, h⟩ := h
    simp only [Bool.and_eq_true, beq_iff_eq, bne_iff_ne] at hcond
    obtain ⟨⟨hes, hne⟩, hmx⟩ := hcond
    have hmx' : mx.map a.eval = none := by rw [e3]; cases vm <;> simp_all
    have hrow := hg.row k r hr
    obtain ⟨hlen, hcap⟩ := hrow.len hne
    have fin : ∀ (l h' : Nat) (rc : RC) (cm : List Cmd) (dv : Nat), l ≤ h' → h' ≤ (σ k).len → ((lo.map a.eval = none ∧ l = 0) ∨ (∃ kk, lo.map a.eval = some (.int kk (l : Int)))) → ((hi.map a.eval = none ∧ h' = (σ k).len) ∨ (∃ kk, hi.map a.eval = some (.int kk (h' : Int)))) →
        (∀ k' ∈ rc.gh, S.ment k') → rc.cont σ ρ = ((r.c.cont σ ρ).drop (l * e.size)).take ((h' - l) * e.size) →
        Stp P o a w fun a' w' => ∃ σ', Gam w0 M N (S.app (({ v := .at (.one (.sl ng)), rw := [(ng, some { c := rc, es := e.size, ap := none })], wr := dropOw k (S.own k), cm, dv } : Out).dl o.dst)) σ' ρ a' w' := by
      intro l h' rc cm dv h1 h2 hlo hhi hgh hcont
      let gv : GV := ⟨(σ k).blk, if (σ k).cap = l then (σ k).off else (σ k).off + l * e.size, h' - l, (σ k).cap - l, (σ k).nil⟩
      have hle : h' * e.size ≤ (σ k).len * e.size := Nat.mul_le_mul_right _ h2
      have hle2 : l * e.size + (h' - l) * e.size = h' * e.size := by rw [← Nat.add_mul]; congr 1; omega
      obtain ⟨σ', hv'⟩ := hg.view (dst := o.dst) (k := k) (ng := ng) hr hfresh hng hdst (rc := rc) (es := e.size) (gv := gv) hgh (by rw [← hes]; exact hne) rfl rfl
        (fun c hc' => by rw [hcont] at hc'; exact hrow.rd.one c (List.mem_of_mem_drop (List.mem_of_mem_take hc')))
        (fun hn => by
          rw [hcont]
          by_cases hml : (σ k).cap = l
          · have : h' - l = 0 := by omega
            rw [this, Nat.zero_mul, List.take_zero]
            intro j v hv; simp at hv
          · have := rangeAt_sub (hrow.rd.at_ hn) (l * e.size) ((h' - l) * e.size)
            show World.rangeAt _ _ (if (σ k).cap = l then _ else _) _
            rw [if_neg hml]; exact this)
        (fun hn => by
          obtain ⟨n1, n2, n3⟩ := hrow.rd.nil hn
          refine ⟨by rw [hcont, n1]; simp, ?_, ?_⟩
          · show h' - l = 0; omega
          · show (σ k).cap - l = 0; omega) (by
          rw [hcont]; simp only [List.length_take, List.length_drop]
          show min _ _ = (h' - l) * e.size
          rw [hlen, hes]; omega) (by show h' - l ≤ (σ k).cap - l; omega) cm dv
      refine .value (v := gv.slv) (w' := w) (key _ ?_) ⟨σ', hv'⟩
      have hbnd := fun (ln : Nat) (hln : ln = (σ k).len) => run_sliceBounds (P := P) (isS := true) (len := ln) (cap := (σ k).cap) (l := l) (h := h') (m := (σ k).cap) (lo := lo.map a.eval) (hi := hi.map a.eval) (mx := mx.map a.eval)
        (.inl ⟨hmx', rfl⟩)
        (by rcases hhi with ⟨q1, q2⟩ | q
            · exact .inl ⟨q1, by rw [hln]; exact q2, hmx'⟩
            · exact .inr q) hlo h1 (by omega) (Nat.le_refl _) w
      have hnr : P.underlying T = some (.slice el) := hu
      cases hn : (σ k).nil with
      | false =>
        have := hbnd _ rfl
        simp only [Instr.sliceAt, AV.conc, AT.conc, A1.conc, Sem.run_bind, run_underlying hu, Result.andThen_ok, GV.slv, hn, Bool.false_eq_true, if_false, Instr.slice, this, hs, Sem.run_pure]
        simp only [gv, hn, Bool.false_eq_true, if_false]
        by_cases hml : (σ k).cap = l <;> simp [hml, Addr.add_mid]
      | true =>
        obtain ⟨n1, n2, n3⟩ := hrow.rd.nil hn
        have := hbnd 0 n2.symm
        rw [n3] at this
        simp only [Instr.sliceAt, AV.conc, AT.conc, A1.conc, Sem.run_bind, run_underlying hu, Result.andThen_ok, GV.slv, hn, if_true, Instr.slice, this, hs, Sem.run_pure]
        have hl0 : l = 0 := by omega
        have hh0 : h' = 0 := by omega
        simp [gv, hn, hl0, hh0]
    split at h
    · rename_i cs hcs
      split at h
      · rename_i l h' hl' hh'
        replace h := Rd.chk_val h
        obtain ⟨hb, h⟩ := h
        simp only [Bool.and_eq_true, decide_eq_true_eq] at hb
        cases h
        have ec : r.c.cont σ ρ = cs.map (A1.conc σ ρ) := by rw [hcs]; rfl
        have hcl : cs.length = (σ k).len * r.es := by rw [ec] at hlen; simpa using hlen
        have hdiv : cs.length / r.es = (σ k).len := by rw [hcl]; exact Nat.mul_div_cancel _ (by omega)
        refine fin l h' (.lst ((cs.drop (l * e.size)).take ((h' - l) * e.size))) [] 0 hb.1 ?_ ?_ ?_ ?_ ?_
        · have := hb.2; rw [hcl] at this; exact Nat.le_of_mul_le_mul_right this (by omega)
        · rcases optNat_val e1 hl' with ⟨q1, q2⟩ | q
          · exact .inl ⟨q1, q2⟩
          · exact .inr q
        · rcases optNat_val e2 hh' with ⟨q1, q2⟩ | q
          · exact .inl ⟨q1, by rw [q2, hdiv]⟩
          · exact .inr q
        · intro k' hk'
          obtain ⟨c, hc', hk'⟩ := List.mem_flatMap.1 hk'
          exact .inr (.inl ⟨k, r, hr, .inr (by rw [hcs]; exact List.mem_flatMap.2 ⟨c, List.mem_of_mem_drop (List.mem_of_mem_take hc'), hk'⟩)⟩)
        · rw [ec]; simp [RC.cont, List.map_take, List.map_drop]
      · cases h
    · rename_i n hcs
      split at h
      · rename_i l h' hl' hh'
        cases h
        obtain ⟨l0, h0, k0, c1, c2, c3, c4, c5, c6⟩ := hc (.sub (.all n) l h' e.size nv) (by simp)
        have ec : r.c.cont σ ρ = (RC.all n).cden ρ := by rw [hcs]; rfl
        have hk0 : k0 = (σ k).len := by
          rw [← ec, hlen, hes] at c1
          exact (Nat.eq_of_mul_eq_mul_right (by omega) c1).symm
        have conv : ∀ (x : Option AV) (y : Option A1) (z : Option Value) (d n : Nat), z = x.map (AV.conc σ ρ) → optA1 x = some y → (match y with | none => n = d | some q => int? (q.den ρ) = some (n : Int)) → (z = none ∧ n = d) ∨ ∃ kk, z = some (.int kk (n : Int)) := by
          intro x y z d n hz hxy hyn
          unfold optA1 at hxy
          split at hxy
          · simp at hxy; subst hxy; exact .inl ⟨by rw [hz]; rfl, hyn⟩
          · rename_i q
            split at hxy
            · rename_i hq
              simp at hxy; subst hxy
              right
              simp only at hyn
              cases hv : q.den ρ with
              | int kk i =>
                rw [hv] at hyn
                simp [int?] at hyn
                exact ⟨kk, by rw [hz]; simp only [Option.map_some, AV.conc, AT.conc, A1.conc_pure hq, hv, hyn]⟩
              | _ => rw [hv] at hyn; simp [int?] at hyn
            · cases hxy
          · cases hxy
        refine fin l0 h0 (.all nv) _ _ c2 (by omega) (conv _ _ _ _ _ e1 hl' c4) ?_ (fun k' hk' => by simp [RC.gh] at hk') ?_
        · have := conv _ _ _ k0 _ e2 hh' c5
          rwa [hk0] at this
        · rw [ec]
          show (ρ nv).cells.toList = _
          rw [c6]
          rfl
      · cases h
    · cases h
  · cases h
end
end Go.Sx

/-
  Each operation's step is sound: appends, makes, conversions to a string, calls.
-/
namespace Go.Sx
open Go.RowKit (Below)

section
variable {P : Program} {G : Glb} {C : Cfg} {w0 : World} {M : Ms} {N : Nat} {S : St} {σ : Nat → GV} {ρ : Nat → Value} {a : Act} {w : World}

theorem sound_arrPtr (hti : TIok P C.ti) (hg : Gam w0 M N S σ ρ a w) {o : Oper} {T : TypeId} {x : Operand} (ho : o.op = .sliceToArrayPointer T x) {v : AV} (hx : (opnd x).val S = some v) {out : Out}
    (h : (doArrPtr C T v).val S = some out) (hc : ∀ c ∈ out.cm, Cmd.holds P G ρ c) (hdst : ∀ t, o.dst = some t → t < N) :
    Stp P o a w fun a' w' => ∃ σ', Gam w0 M N (S.app (out.dl o.dst)) σ' ρ a' w' := by
  have x1 := (opnd_val hg hx).1
  unfold doArrPtr at h
  split at h
  · rename_i n el sz by' zr k ht
    obtain ⟨_, _, _, _, _, _, _, _, _, ⟨hu, _, _⟩, _⟩ := hti T _ ht
    split at h
    · cases h
    rename_i e he
    replace h := row!_val h
    obtain ⟨r, hr, h⟩ := h
    replace h := Rd.chk_val h
    obtain ⟨hcond, h⟩ := h
    simp only [Bool.and_eq_true, beq_iff_eq, bne_iff_ne] at hcond
    obtain ⟨⟨hes, hne⟩, hn0⟩ := hcond
    have hrow := hg.row k r hr
    obtain ⟨hlen, _⟩ := hrow.len hne
    have fin : n * r.es ≤ (r.c.cont σ ρ).length → ∀ cm, Stp P o a w fun a' w' => ∃ σ', Gam w0 M N (S.app (({ v := .at (.one (.ptr k 0)), cm } : Out).dl o.dst)) σ' ρ a' w' := by
      intro hl cm
      have hle : n ≤ (σ k).len := by rw [hlen] at hl; exact Nat.le_of_mul_le_mul_right hl (by omega)
      have hn : (σ k).nil = false := by
        cases hq : (σ k).nil with
        | false => rfl
        | true => have := (hrow.rd.nil hq).2.1; omega
      refine sound_pure hg (v := .at (.one (.ptr k 0))) ?_ trivial hdst _ _
      have : ¬ (σ k).len < n := by omega
      simp [execOp, ho, x1, AV.conc, AT.conc, A1.conc, GV.slv, hn, Instr.arrayAt, run_underlying hu, this]
    split at h
    · rename_i l hl
      replace h := Rd.chk_val h
      obtain ⟨hb, h⟩ := h
      simp only [decide_eq_true_eq] at hb
      cases h
      exact fin (by rw [hl, hes]; simpa [RC.cont] using hb) _
    · rename_i m hl
      cases h
      have : (n - 1 + 1) * r.es ≤ (ρ m).cells.size := hc (.ltlen (n - 1) m r.es) (by simp)
      exact fin (by rw [hl]; rw [show n - 1 + 1 = n by omega] at this; simpa [RC.cont] using this) _
    · cases h
  · cases h

/-- an owned row takes an append -/
theorem Gam.app_row (hg : Gam w0 M N S σ ρ a w) {d : Dl} {k ng : Nat} {r r' : Row} {gv : GV} {w' : World} (hr : S.row k = some r) (hk : S.own k = true) (hfresh : ¬ S.ment ng) (hng : 10000 ≤ ng)
    (hrw : d.rw = [(k, none), (ng, some r')]) (hwr : d.wr = [(k, false), (ng, true)]) (hdst : ∀ t, d.dst = some t → t < N)
    (hrow : RowOK w0.heap.size (upd σ ng gv) ρ w' ng r') (hth : gv.nil = false → w'.there gv.blk gv.off (r'.c.cont (upd σ ng gv) ρ).length)
    (hblk : gv.nil = false → ((σ k).nil = false ∧ gv.blk = (σ k).blk) ∨ w.heap.size ≤ gv.blk)
    (h1 : w'.os = w.os) (h2 : w'.tape = w.tape) (h3 : w'.output = w.output) (h4 : w.heap.size ≤ w'.heap.size) (h5 : ∀ i, i < w.heap.size → ((σ k).nil = false → i ≠ (σ k).blk) → w'.heap[i]? = w.heap[i]?)
    (hv : d.v.ok (upd σ ng gv) ρ) :
    Gam w0 M N (S.app d) (upd σ ng gv) ρ (a.put d.dst (d.v.conc (upd σ ng gv) ρ)) w' := by
  have hσ : ∀ k, S.ment k → upd σ ng gv k = σ k := fun k hk => upd_ne (fun e => hfresh (e ▸ hk))
  have hkng : k ≠ ng := fun e => hfresh (.inr (.inl ⟨k, r, hr, .inl e.symm⟩))
  have hr1 : (S.app d).row ng = some r' := by
    simp only [St.row, St.app, hrw, List.cons_append, List.nil_append, lk]
    rw [if_neg hkng, if_pos trivial]; rfl
  have hr0 : (S.app d).row k = none := by simp [St.row, St.app, hrw, lk]
  have hr2 : ∀ k', k' ≠ ng → k' ≠ k → (S.app d).row k' = S.row k' := fun k' ha hb => by
    simp only [St.row, St.app, hrw, List.cons_append, List.nil_append, lk]
    rw [if_neg (fun e => hb e.symm), if_neg (fun e => ha e.symm)]
  have ho1 : ∀ k', (S.app d).own k' = true → k' = ng ∨ (k' ≠ k ∧ S.own k' = true) := fun k' h => by
    by_cases e : k' = ng
    · exact .inl e
    · right
      simp only [St.own, St.app, hwr, List.cons_append, List.nil_append, lk] at h
      by_cases e' : k = k'
      · rw [if_pos e'] at h; simp at h
      · rw [if_neg e', if_neg (fun e2 => e e2.symm)] at h
        exact ⟨fun e2 => e' e2.symm, h⟩
  obtain ⟨r0, hr0', hof⟩ := hg.own k hk
  rw [hr] at hr0'
  cases hr0'
  -- rows of other blocks stand
  have hcell : ∀ b, b < w.heap.size → ((σ k).nil = false → b ≠ (σ k).blk) → w'.heap[b]? = w.heap[b]? := h5
  have hlive : ∀ k' q, k' ≠ k → S.row k' = some q → (σ k').nil = false → w'.heap[(σ k').blk]? = w.heap[(σ k').blk]? := fun k' q hne hq hn =>
    hcell _ ((hg.row k' q hq).rd.live hn) fun hkn => (hof hkn).2.2 k' q hne hq hn
  have hrowk : ∀ k' q, k' ≠ k → S.row k' = some q → RowOK w0.heap.size σ ρ w' k' q := fun k' q hne hq => by
    have hq' := hg.row k' q hq
    refine ⟨⟨hq'.rd.nil, fun hn => Nat.lt_of_lt_of_le (hq'.rd.live hn) h4, fun hn j v hv => ?_, hq'.rd.one⟩, hq'.len, fun e he => ⟨(hq'.app e he).1, ?_⟩⟩
    · rw [World.cell?_of_block (hlive k' q hne hq hn)]; exact hq'.rd.at_ hn j v hv
    · obtain ⟨_, b1, b2⟩ := hq'.app e he
      refine ⟨b1, ?_⟩
      rcases b2 with b2 | ⟨g, cap, cur, c1, c2, c3, c4⟩
      · exact .inl b2
      · refine .inr ⟨g, cap, cur, c1, c2, ?_, c4⟩
        have hn : (σ k').nil = false := by
          cases hn : (σ k').nil with
          | false => rfl
          | true => simp [GV.slv, hn] at c1
        have : g = (σ k').blk := by simp [GV.slv, hn] at c1; exact c1.1.1.symm
        rw [this, hlive k' q hne hq hn, ← this]; exact c3
  exact {
    defers := by rw [put_defers]; exact hg.defers
    size := by rw [put_size]; exact hg.size
    slot := slots_step hg hσ hdst hv
    row := fun k' q h => by
      by_cases e : k' = ng
      · subst e; rw [hr1] at h; cases h; exact hrow
      · by_cases e' : k' = k
        · subst e'; rw [hr0] at h; cases h
        · rw [hr2 k' e e'] at h
          exact (hrowk k' q e' h).congr (hσ k' (.inr (.inl ⟨k', q, h, .inl rfl⟩))) fun k2 hk2 => hσ k2 (.inr (.inl ⟨k', q, h, .inr hk2⟩))
    own := fun k' h => by
      rcases ho1 k' h with e | ⟨hne, ho⟩
      · subst e
        refine ⟨r', hr1, fun hn => ?_⟩
        rw [upd_self] at hn ⊢
        refine ⟨hth hn, ?_, fun k2 q2 hne2 hq2 hn2 => ?_⟩
        · rcases hblk hn with ⟨hkn, e⟩ | h
          · rw [e]; exact (hof hkn).2.1
          · exact .inl (Nat.le_trans hg.frm.size h)
        · rw [upd_ne hne2] at hn2 ⊢
          have hk2 : k2 ≠ k := fun e => by subst e; rw [hr0] at hq2; cases hq2
          rw [hr2 k2 hne2 hk2] at hq2
          rcases hblk hn with ⟨hkn, e⟩ | h
          · rw [e]; exact (hof hkn).2.2 k2 q2 hk2 hq2 hn2
          · have := (hg.row k2 q2 hq2).rd.live hn2; omega
      · have hng' : k' ≠ ng := fun e => hfresh (e ▸ .inr (.inr ho))
        obtain ⟨q, hq, h6⟩ := hg.own k' ho
        have e1 : upd σ ng gv k' = σ k' := upd_ne hng'
        have e2 : q.c.cont (upd σ ng gv) ρ = q.c.cont σ ρ := RC.cont_congr fun k2 hk2 => hσ k2 (.inr (.inl ⟨k', q, hq, .inr hk2⟩))
        refine ⟨q, by rw [hr2 k' hng' hne]; exact hq, fun hn => ?_⟩
        rw [e1] at hn ⊢
        rw [e2]
        obtain ⟨h7, h8, h9⟩ := h6 hn
        have hb := hlive k' q hne hq hn
        refine ⟨fun j hj => ?_, h8, fun k2 q2 hne2 hq2 hn2 => ?_⟩
        · have := h7 j hj
          rw [World.cell?_of_block (a := ⟨(σ k').blk, (σ k').off + j, none⟩) hb, World.frozen?_of_block (a := ⟨(σ k').blk, (σ k').off + j, none⟩) hb]
          exact this
        · by_cases e : k2 = ng
          · subst e
            rw [upd_self] at hn2 ⊢
            rcases hblk hn2 with ⟨hkn, e⟩ | h
            · rw [e]; exact h9 k r (fun e => hne e.symm) hr hkn
            · have := (hg.row k' q hq).rd.live hn; omega
          · have hk2 : k2 ≠ k := fun e => by subst e; rw [hr0] at hq2; cases hq2
            rw [upd_ne e] at hn2 ⊢
            rw [hr2 k2 e hk2] at hq2
            exact h9 k2 q2 hne2 hq2 hn2
    glob := fun g hg' => by rw [upd_ne (by omega)]; exact hg.glob g hg'
    src := fun k' q h hn => by
      by_cases e : k' = ng
      · subst e
        rw [upd_self] at hn ⊢
        rcases hblk hn with ⟨hkn, e⟩ | h
        · rw [e]; exact hg.src k r hr hkn
        · exact .inr (Nat.le_trans hg.frm.size h)
      · by_cases e' : k' = k
        · subst e'; rw [hr0] at h; cases h
        · rw [hr2 k' e e'] at h; rw [upd_ne e] at hn ⊢; exact hg.src k' q h hn
    frm := ⟨h1.trans hg.frm.os, h2.trans hg.frm.tape, h3.trans hg.frm.output, Nat.le_trans hg.frm.size h4, fun j hj hM => by
      rw [hcell j (Nat.lt_of_lt_of_le hj hg.frm.size) fun hkn e => by
        rcases (hof hkn).2.1 with h | h
        · omega
        · exact hM (e ▸ h)]
      exact hg.frm.block j hj hM⟩ }

theorem run_append_none0 (t ty e : TypeId) (i : TypeInfo) (ht : P.underlying t = some (.slice e)) (hi : P.info? e = some i) {b : Option Addr} {n cap : Nat} (hn : n ≤ cap) {x : Option Addr} {c : Nat} :
    (Builtin.append_ #[t, t] ty #[.slice b n cap, .slice x 0 c]).run P w = .ok (.slice b n cap) w := by
  cases x <;> cases b <;> simp [Builtin.append_, run_underlying ht, sizeOf, typeInfo, hi, Builtin.lenOf, hn, Builtin.firstCells, loadCells, loadCellsFrom, storeCells]

/-- what an append of the rows' contents comes to -/
theorem run_append_rows {T el : TypeId} {info : TypeInfo} {z : Value} {es bytes : Nat} (hu : P.underlying T = some (.slice el)) (hi : P.info? el = some info) (hz : info.zero = some z) (hsz : info.size = es) (hby : info.bytes = bytes) (hzs : z.cells.size = es) (_ : es ≠ 0)
    {v : Value} {n : Nat} {xs : List Value} (hown : w.ownsRow w0.heap.size el es v n xs) (hb0 : w0.heap.size ≤ w.heap.size) {g : GV} {news : List Value} (hx : SliceR w g news) (hl : LenR g news es) (hb : n + g.len ≤ 100000) (hbytes : bytes ≤ 1024) (ty : TypeId) :
    ∃ gv w', (Builtin.append_ #[T, T] ty #[v, g.slv]).run P w = .ok (GV.slv gv) w' ∧ w'.ownsRow w0.heap.size el es gv.slv gv.len (xs ++ news) ∧ gv.len ≤ gv.cap ∧ (gv.nil = true → gv.len = 0 ∧ gv.cap = 0) ∧ w.grownBy w' v.ownBlock ∧
      (gv.nil = false → v.ownBlock = some gv.blk ∨ w.heap.size ≤ gv.blk) ∧ (xs ++ news).length = gv.len * es := by
  obtain ⟨_, hl1, _⟩ := hl
  by_cases hm : g.len = 0
  · -- nothing is appended
    have hnews : news = [] := List.eq_nil_of_length_eq_zero (by rw [hl1, hm, Nat.zero_mul])
    have hrest : w.grownBy w v.ownBlock := ⟨rfl, rfl, rfl, Nat.le_refl _, fun _ _ _ => rfl⟩
    have hgs : ∃ x c, g.slv = .slice x 0 c := by
      unfold GV.slv; split
      · exact ⟨none, 0, rfl⟩
      · exact ⟨_, g.cap, by rw [hm]⟩
    obtain ⟨x, c, hgs⟩ := hgs
    rcases hown.2 with ⟨e1, e2⟩ | ⟨g', cap, cur, e1, e2, e3, e4, e5, e6, e7⟩
    · refine ⟨⟨0, 0, 0, 0, true⟩, w, ?_, ?_, Nat.le_refl _, fun _ => ⟨rfl, rfl⟩, hrest, fun h => by (simp at h), ?_⟩
      · rw [e1, hgs]; exact run_append_none0 T ty el info hu hi (Nat.le_refl _)
      · rw [hnews, List.append_nil]; rw [e1, e2] at hown; exact hown
      · rw [hnews, List.append_nil, hown.1, e2]
    · refine ⟨⟨g', 0, n, cap, false⟩, w, ?_, ?_, e4, fun h => by (simp at h), hrest, fun _ => .inl (by rw [e1]; rfl), ?_⟩
      · rw [e1, hgs]; exact run_append_none0 T ty el info hu hi e4
      · rw [hnews, List.append_nil]; rw [e1] at hown; exact hown
      · rw [hnews, List.append_nil]; exact hown.1
  · have hn : g.nil = false := by
      cases hq : g.nil with
      | false => rfl
      | true => exact absurd (hx.nil hq).2.1 hm
    have hgs : g.slv = .slice (some ⟨g.blk, g.off, none⟩) g.len g.cap := by simp [GV.slv, hn]
    have h63 : n + g.len ≤ maxLen := Nat.le_trans hb maxLen_val
    have hbb : (n + g.len) * info.bytes ≤ 140737488355328 := by
      rw [hby]
      have := Nat.mul_le_mul hb hbytes
      omega
    obtain ⟨g', cap, w', r1, r2, r3, r4, r5⟩ := run_append_lies w T ty w0.heap.size el info z info.size info.bytes hu hi hz rfl rfl (by rw [hzs, hsz]) (by omega) v n xs (by rw [hsz]; exact hown)
      ⟨g.blk, g.off, none⟩ g.len g.cap news (by rw [hsz]; exact hl1) (fun j u hj => by rw [Addr.add_mid]; exact hx.at_ hn j u hj) hx.one (by omega) h63 hbb hb0 w.heap.size rfl
    rw [hsz] at r2
    have hcap : n + g.len ≤ cap := by
      rcases r2.2 with ⟨q, _⟩ | ⟨_, cap', _, q, _, _, q4, _⟩
      · cases q
      · simp at q; rw [q.2]; exact q4
    refine ⟨⟨g', 0, n + g.len, cap, false⟩, w', ?_, r2, hcap, fun h => by (simp at h), r3, fun _ => ?_, r2.1⟩
    · rw [hgs]; exact r1
    · rcases r4 with h | h
      · exact .inl h
      · exact .inr (by show w.heap.size ≤ g'; omega)
end
end Go.Sx

/-
  Each operation's step is sound: appends, makes, conversions, calls.
-/
namespace Go.Sx
open Go.RowKit (Below)

section
variable {P : Program} {G : Glb} {C : Cfg} {w0 : World} {M : Ms} {N : Nat} {S : St} {σ : Nat → GV} {ρ : Nat → Value} {a : Act} {w : World}

theorem appSrc_val {es : Nat} {x : AV} {q : RC} (h : (appSrc es x).val S = some q) : ∃ k2 r, x = .at (.one (.sl k2)) ∧ S.row k2 = some r ∧ r.es = es ∧ q = r.c := by
  unfold appSrc at h
  split at h
  · rename_i k2
    simp only [Rd.val] at h
    split at h
    · rename_i r hr
      replace h := Rd.chk_val h
      obtain ⟨h1, h2⟩ := h
      cases h2
      exact ⟨k2, r, rfl, hr, by simpa using h1, rfl⟩
    · cases h
  · cases h

theorem appCat_val {el es nv : Nat} {p q rc : RC} {cm : List Cmd} {dv : Nat} (h : appCat el es nv p q = some (rc, cm, dv)) :
    ((∀ c ∈ cm, Cmd.holds P G ρ c) → rc.cont σ ρ = p.cont σ ρ ++ q.cont σ ρ ∧ (p.cont σ ρ).length + (q.cont σ ρ).length ≤ 100000) ∧ (∀ k ∈ rc.gh, k ∈ p.gh ∨ k ∈ q.gh) := by
  unfold appCat at h
  split at h
  · rename_i l m
    split at h
    · rename_i hb
      cases h
      refine ⟨fun _ => ⟨by simp [RC.cont], by simpa [RC.cont] using hb⟩, fun k hk => ?_⟩
      simp only [RC.gh, List.flatMap_append, List.mem_append] at hk ⊢
      exact hk
    · cases h
  · split at h
    · rename_i hb
      simp only [Bool.and_eq_true] at hb
      cases h
      refine ⟨fun hcm => ?_, fun k hk => by simp [RC.gh] at hk⟩
      obtain ⟨h1, h2⟩ := hcm _ (List.mem_singleton.2 rfl)
      rw [RC.cont_pure hb.1, RC.cont_pure hb.2]
      refine ⟨?_, h1⟩
      show (ρ nv).cells.toList = _
      rw [h2]; rfl
    · cases h

theorem sound_append (hti : TIok P C.ti) (hg : Gam w0 M N S σ ρ a w) {o : Oper} {args : Array Operand} {Ts : Array TypeId} (ho : o.op = .call { callee := .builtin .append, args, argTypes := Ts }) {s x : AV} (hx : (opndl args.toList).val S = some [s, x]) {nv ng : Nat} (hfresh : ¬ S.ment ng) (hng : 10000 ≤ ng)
    {out : Out} (h : (doAppend C nv ng Ts.toList s x).val S = some out) (hc : ∀ c ∈ out.cm, Cmd.holds P G ρ c) (hdst : ∀ t, o.dst = some t → t < N) :
    Stp P o a w fun a' w' => ∃ σ', Gam w0 M N (S.app (out.dl o.dst)) σ' ρ a' w' := by
  have x1 := (opndl_val hg hx).1
  unfold doAppend at h
  split at h
  case h_2 => cases h
  rename_i T T' hTs
  split at h
  case h_2 => cases h
  rename_i el sz1 by1 zr1 el' sz2 by2 zr2 hT hT'
  obtain ⟨_, _, _, _, _, _, _, _, _, ⟨hu, _⟩, _⟩ := hti T _ hT
  split at h
  · cases h
  rename_i e he
  replace h := Rd.chk_val h
  obtain ⟨hcond, h⟩ := h
  simp only [Bool.and_eq_true, beq_iff_eq, bne_iff_ne, decide_eq_true_eq] at hcond
  obtain ⟨⟨⟨⟨eT, eel⟩, hes⟩, hez⟩, hby⟩ := hcond
  subst eT eel
  obtain ⟨info, z, i1, i2, i3, i4, i5, i6, i7, _⟩ := hti el e he
  have hzs : z.cells.size = e.size := by rw [← hez, ← i5]; simp
  have key : ∀ u w', (Builtin.append_ #[T, T] o.type #[s.conc σ ρ, x.conc σ ρ]).run P w = .ok u w' → (execOp a.eval o).run P w = .ok (.value u) w' := fun u w' hu' => by
    have ha : args.map a.eval = #[s.conc σ ρ, x.conc σ ρ] := by
      apply Array.ext'
      rw [Array.toList_map]
      exact x1
    have hT2 : Ts = #[T, T] := by
      apply Array.ext'; exact hTs
    simp [execOp, ho, resolve, invoke, builtin, ha, hT2, hu']
  -- how the new row stands
  have fin : ∀ (k2 : Nat) (q : Row) (v : Value) (n : Nat) (xs : List Value), x = .at (.one (.sl k2)) → S.row k2 = some q → q.es = e.size → w.ownsRow w0.heap.size el e.size v n xs → (∀ c ∈ xs, c.oneCell' = true) → xs.length + (q.c.cont σ ρ).length ≤ 100000 → ∀ (rc : RC), rc.cont σ ρ = xs ++ q.c.cont σ ρ → (∀ k ∈ rc.gh, k ≠ ng) →
      ∃ gv w', (Builtin.append_ #[T, T] o.type #[v, x.conc σ ρ]).run P w = .ok (GV.slv gv) w' ∧ w.grownBy w' v.ownBlock ∧ (gv.nil = false → v.ownBlock = some gv.blk ∨ w.heap.size ≤ gv.blk) ∧
        RowOK w0.heap.size (upd σ ng gv) ρ w' ng { c := rc, es := e.size, ap := some el } ∧ (gv.nil = false → w'.there gv.blk gv.off (rc.cont (upd σ ng gv) ρ).length) := by
    intro k2 q v n xs hxk hq hqes hown hone hbnd rc hrc hgh
    have hqr := hg.row k2 q hq
    obtain ⟨ql, qc⟩ := hqr.len (by rw [hqes]; exact hes)
    have hnn : n + (σ k2).len ≤ 100000 := by
      have h1 := hown.1
      rw [hqes] at ql
      have : (n + (σ k2).len) * 1 ≤ (n + (σ k2).len) * e.size := Nat.mul_le_mul_left _ (by omega)
      have h2 : n * e.size + (σ k2).len * e.size = (n + (σ k2).len) * e.size := (Nat.add_mul _ _ _).symm
      omega
    obtain ⟨gv, w', r1, r2, r3, r4, r5, r6, r7⟩ := run_append_rows (P := P) (w := w) (w0 := w0) hu i1 i4 i2 i3 hzs hes hown hg.frm.size hqr.rd ⟨by rw [← hqes]; rw [hqes]; exact hes, by rw [← hqes]; exact ql, qc⟩ hnn hby o.type
    have ec : rc.cont (upd σ ng gv) ρ = xs ++ q.c.cont σ ρ := by rw [← hrc]; exact RC.cont_congr fun k hk => upd_ne (hgh k hk)
    refine ⟨gv, w', by rw [hxk]; exact r1, r5, r6, ⟨⟨?_, ?_, ?_, ?_⟩, ?_, ?_⟩, ?_⟩
    · rw [upd_self]; intro hn
      obtain ⟨n1, n2⟩ := r4 hn
      refine ⟨?_, n1, n2⟩
      show rc.cont _ ρ = []
      rw [ec]
      exact List.eq_nil_of_length_eq_zero (by rw [r7, n1, Nat.zero_mul])
    · rw [upd_self]; intro hn; exact (ownsRow_there r2 hn).2.2.2.1
    · rw [upd_self]; intro hn
      show World.rangeAt _ _ _ (rc.cont _ ρ)
      rw [ec]; exact (ownsRow_there r2 hn).2.2.2.2.2
    · intro c hc'
      have : c ∈ xs ++ q.c.cont σ ρ := by rw [← ec]; exact hc'
      rcases List.mem_append.1 this with h | h
      · exact hone c h
      · exact hqr.rd.one c h
    · intro _; rw [upd_self]; show (rc.cont _ ρ).length = _ ∧ _
      rw [ec]; exact ⟨r7, r3⟩
    · intro e' he'; cases he'; rw [upd_self]; show _ ∧ World.ownsRow _ _ _ _ _ _ (rc.cont _ ρ)
      rw [ec]; exact ⟨hes, r2⟩
    · intro hn; rw [ec]; exact (ownsRow_there r2 hn).2.2.2.2.1
  split at h
  · -- onto nothing
    replace h := Rd.bind_val h
    obtain ⟨q0, hq0, h⟩ := h
    obtain ⟨k2, q, hxk, hq, hqes, rfl⟩ := appSrc_val hq0
    split at h
    case h_2 => cases h
    rename_i rc cm dv hcat
    cases h
    obtain ⟨hcm, hgh⟩ := appCat_val (P := P) (G := G) (σ := σ) (ρ := ρ) hcat
    obtain ⟨hrc, hbnd⟩ := hcm hc
    have hgh' : ∀ k ∈ rc.gh, S.ment k := fun k hk => by
      rcases hgh k hk with h | h
      · simp [RC.gh] at h
      · exact .inr (.inl ⟨k2, q, hq, .inr h⟩)
    obtain ⟨gv, w', r1, r2, r3, r4, r5⟩ := fin k2 q (.slice none 0 0) 0 [] hxk hq hqes (World.ownsRow_nil w _ _ _) (fun c hc => by cases hc) (by simpa [RC.cont] using hbnd) rc (by simpa [RC.cont] using hrc) (fun k hk e => hfresh (e ▸ hgh' k hk))
    have hE : Ext w w' := Ext.of_grown r2 rfl
    have := hg.add_row (d := ({ v := .at (.one (.sl ng)), rw := [(ng, some { c := rc, es := e.size, ap := some el })], wr := [(ng, true)], cm, dv } : Out).dl o.dst) (gv := gv) (w' := w') hfresh hng rfl
      (fun k b h hb => by simp [Out.dl] at h; exact h.1) hdst hE r4 (fun _ hn => ⟨r5 hn, (r3 hn).resolve_left (fun h => by cases h)⟩)
      (fun hn k' hk' hne' hn' => by
        have ho' : S.own k' = true := by
          simp only [St.own, St.app, Out.dl, List.cons_append, List.nil_append, lk] at hk'
          rw [if_neg (fun e => hne' e.symm)] at hk'
          exact hk'
        obtain ⟨q', hq', _⟩ := hg.own k' ho'
        have h1 := (hg.row k' q' hq').rd.live hn'
        rcases r3 hn with h | h
        · cases h
        · omega) (fun hn => .inr (Nat.le_trans hg.frm.size ((r3 hn).resolve_left (fun h => by cases h)))) trivial
    have hcv : (({ v := .at (.one (.sl ng)), rw := [(ng, some { c := rc, es := e.size, ap := some el })], wr := [(ng, true)], cm, dv } : Out).dl o.dst).v.conc (upd σ ng gv) ρ = gv.slv := by
      simp [Out.dl, AV.conc, AT.conc, A1.conc, upd_self]
    rw [hcv] at this
    exact .value (v := gv.slv) (w' := w') (key _ _ r1) ⟨_, this⟩
  · rename_i k
    replace h := own_val h
    replace h := Rd.chk_val h
    obtain ⟨hown, h⟩ := h
    replace h := row!_val h
    obtain ⟨r, hr, h⟩ := h
    replace h := Rd.chk_val h
    obtain ⟨hcond, h⟩ := h
    simp only [Bool.and_eq_true, beq_iff_eq] at hcond
    obtain ⟨⟨hres, hap⟩, _⟩ := hcond
    replace h := Rd.bind_val h
    obtain ⟨q0, hq0, h⟩ := h
    obtain ⟨k2, q, hxk, hq, hqes, rfl⟩ := appSrc_val hq0
    split at h
    case h_2 => cases h
    rename_i rc cm dv hcat
    cases h
    obtain ⟨hcm, hgh⟩ := appCat_val (P := P) (G := G) (σ := σ) (ρ := ρ) hcat
    obtain ⟨hrc, hbnd⟩ := hcm hc
    have hgh' : ∀ k ∈ rc.gh, S.ment k := fun k' hk => by
      rcases hgh k' hk with h | h
      · exact .inr (.inl ⟨k, r, hr, .inr h⟩)
      · exact .inr (.inl ⟨k2, q, hq, .inr h⟩)
    have hrow := hg.row k r hr
    obtain ⟨_, hownr⟩ := hrow.app el hap
    rw [hres] at hownr
    obtain ⟨gv, w', r1, r2, r3, r4, r5⟩ := fin k2 q (σ k).slv (σ k).len (r.c.cont σ ρ) hxk hq hqes hownr hrow.rd.one hbnd rc hrc (fun k hk e => hfresh (e ▸ hgh' k hk))
    have := hg.app_row (d := ({ v := .at (.one (.sl ng)), rw := [(k, none), (ng, some { c := rc, es := e.size, ap := some el })], wr := [(k, false), (ng, true)], cm, dv } : Out).dl o.dst) (k := k) (gv := gv) (w' := w') hr hown hfresh hng rfl rfl hdst r4 r5
      (fun hn => by
        rcases r3 hn with h | h
        · rw [slv_ownBlock] at h
          split at h
          · cases h
          · rename_i hk
            simp only [Option.some.injEq] at h
            exact .inl ⟨by simpa using hk, h.symm⟩
        · exact .inr h) r2.os r2.tape r2.output r2.size
      (fun i hi hne => r2.block i hi (by
        rw [slv_ownBlock]
        cases hk : (σ k).nil with
        | true => simp
        | false => simpa using hne hk)) trivial
    have hcv : (({ v := .at (.one (.sl ng)), rw := [(k, none), (ng, some { c := rc, es := e.size, ap := some el })], wr := [(k, false), (ng, true)], cm, dv } : Out).dl o.dst).v.conc (upd σ ng gv) ρ = gv.slv := by
      simp [Out.dl, AV.conc, AT.conc, A1.conc, upd_self]
    rw [hcv] at this
    exact .value (v := gv.slv) (w' := w') (key _ _ r1) ⟨_, this⟩
  · cases h

theorem sound_makeSlice (hti : TIok P C.ti) (hg : Gam w0 M N S σ ρ a w) {o : Oper} {T : TypeId} {x y : Operand} (ho : o.op = .makeSlice T x y) {el : TypeId} {sz by' : Nat} {zr : List Value} (hT : C.ti T = some { k := .slc el, size := sz, bytes := by', zero := zr }) {e : TI} (he : C.ti el = some e)
    {n : Nat} {k1 k2 : IntKind} (hx : a.eval x = .int k1 n) (hy : a.eval y = .int k2 n) (hn : n ≤ 100000) (hes : e.size ≠ 0) (hby : e.bytes ≤ 1024) (hez : e.zero.length = e.size) {ng : Nat} (hfresh : ¬ S.ment ng) (hng : 10000 ≤ ng)
    {rc : RC} (hrc : rc.cont σ ρ = (List.replicate n e.zero).flatten) (hgh : ∀ k ∈ rc.gh, S.ment k ∨ k < 10000) (cm : List Cmd) (dv : Nat) (hdst : ∀ t, o.dst = some t → t < N) :
    Stp P o a w fun a' w' => ∃ σ', Gam w0 M N (S.app (({ v := .at (.one (.sl ng)), rw := [(ng, some { c := rc, es := e.size, ap := some el })], wr := [(ng, true)], cm, dv } : Out).dl o.dst)) σ' ρ a' w' := by
  obtain ⟨_, _, _, _, _, _, _, _, _, ⟨hu, _⟩, _⟩ := hti T _ hT
  obtain ⟨info, z, i1, i2, i3, i4, i5, i6, i7, _⟩ := hti el e he
  have hzs : z.cells.size = e.size := by rw [← hez, ← i5]; simp
  have hb : (info.bytes : Int) * (n : Int) ≤ 281474976710656 := by
    have h1 := Nat.mul_le_mul (show info.bytes ≤ 1024 by rw [i3]; exact hby) hn
    have : ((info.bytes * n : Nat) : Int) ≤ 281474976710656 := by omega
    rwa [Int.natCast_mul] at this
  have hrun := run_make (P := P) w T el info z hu i1 i4 k1 k2 n n (by omega) (Int.le_refl _) hb (by omega)
  simp only [Int.toNat_natCast, i2] at hrun
  have hmc : madeCells z.cells (n * e.size) = (List.replicate n e.zero).flatten.toArray := by
    rw [← i5, ← zeros_eq z.cells n (by rw [hzs]; omega), hzs]
    unfold madeCells
    rw [hzs]
  have hlen : ((List.replicate n e.zero).flatten).length = n * e.size := by simp [List.length_flatten, hez]
  obtain ⟨σ', hs⟩ := hg.new_slice (dst := o.dst) (ng := ng) (rc := rc) (el := el) (es := e.size) (len := n) (cap := n) (cells := madeCells z.cells (n * e.size)) hfresh hng hdst hgh
    (fun c hc => by
      rw [hrc] at hc
      obtain ⟨l, hl, hc⟩ := List.mem_flatten.1 hc
      rw [(List.mem_replicate.1 hl).2] at hc
      exact i7 c hc) hes (by rw [hrc, hlen]) (Nat.le_refl _) (Nat.le_trans hn maxLen_val) (by rw [hmc]; simpa using hlen) (by
      rw [hrc, hmc]; simp only
      rw [List.take_of_length_le (by rw [hlen]; exact Nat.le_refl _)]) (Ext.refl w) cm dv
  refine .value (v := .slice (some ⟨w.heap.size, 0, none⟩) n n) (w' := w.alloc (.cells (madeCells z.cells (n * e.size)) el)) ?_ ⟨σ', hs⟩
  simp only [execOp, ho, hx, hy, Sem.run_bind, hrun, Result.andThen_ok, Sem.run_pure]

theorem run_bytesToString {g : GV} {l : List UInt8} (h : SliceR w g (bytesV l)) (hl : LenR g (bytesV l) 1) : (Conv.bytesToString g.slv).run P w = .ok (.string ⟨l.toArray⟩) w := by
  cases hn : g.nil with
  | true =>
    have h1 := (h.nil hn).1
    have : l = [] := by simpa [bytesV] using h1
    subst this
    simp [GV.slv, hn, Conv.bytesToString]
    rfl
  | false =>
    have hlen : g.len = l.length := by have := hl.2.1; simp [bytesV] at this; exact this.symm
    have hload : (loadCells ⟨g.blk, g.off, none⟩ g.len).run P w = .ok (bytesV l).toArray w := by
      rw [hlen, ← show (bytesV l).length = l.length by simp [bytesV]]
      exact run_loadCells_list (P := P) w ⟨g.blk, g.off, none⟩ _ (fun j v hv => by rw [Addr.add_mid]; exact h.at_ hn j v hv)
    have hloop : ∀ (f : Value → ByteArray → Sem (ForInStep ByteArray)), (∀ (b : UInt8) s, (f (.int .u8 b.toNat) s).run P w = .ok (.yield (s.push b)) w) → ∀ (l : List UInt8) (s : ByteArray), (forIn (bytesV l) s f).run P w = .ok (l.foldl ByteArray.push s) w := by
      intro f hf l
      induction l with
      | nil => intro s; simp [bytesV]
      | cons b l ih =>
        intro s
        simp only [bytesV, List.map_cons, List.forIn_cons, Sem.run_bind, hf, Result.andThen_ok, List.foldl_cons]
        exact ih _
    have hfold : ∀ (l : List UInt8) (s : ByteArray), l.foldl ByteArray.push s = ⟨s.data ++ l.toArray⟩ := by
      intro l
      induction l with
      | nil => intro s; simp
      | cons b l ih => intro s; rw [List.foldl_cons, ih]; simp [ByteArray.push]
    simp only [GV.slv, hn, Bool.false_eq_true, if_false, Conv.bytesToString, Sem.run_bind, hload, Result.andThen_ok, ← Array.forIn_toList]
    rw [hloop _ (fun b s => by simp) l]
    rw [hfold]
    simp [ByteArray.empty, ByteArray.emptyWithCapacity]
    rfl
end
end Go.Sx

/-
  Each operation's step is sound: calls; and all operations together.
-/
namespace Go.Sx
open Go.RowKit (Below)

section
variable {P : Program} {G : Glb} {C : Cfg} {w0 : World} {M : Ms} {N : Nat} {S : St} {σ : Nat → GV} {ρ : Nat → Value} {a : Act} {w : World}

theorem nil_slice {A : Nat → Prop} {es : Nat} (hes : es ≠ 0) : ∃ g cs, Value.slice none 0 0 = GV.slv g ∧ Value.agg #[] = .agg cs ∧ SliceR w g cs.toList ∧ LenR g cs.toList es ∧ (g.nil = false → A g.blk) :=
  ⟨⟨0, 0, 0, 0, true⟩, #[], rfl, rfl, ⟨fun _ => ⟨rfl, rfl, rfl⟩, (fun h => by cases h), (fun h => by cases h), (fun c h => by cases h)⟩, ⟨hes, by simp, Nat.le_refl _⟩, fun h => by cases h⟩

theorem row_slice (hg : Gam w0 M N S σ ρ a w) {k : Nat} {r : Row} (hr : S.row k = some r) (hes : r.es ≠ 0) (hp : r.c.pure = true) : SliceR w (σ k) (r.c.cden ρ) ∧ LenR (σ k) (r.c.cden ρ) r.es := by
  have h := hg.row k r hr
  have e := RC.cont_pure hp σ ρ
  exact ⟨by rw [← e]; exact h.rd, hes, by rw [← e]; exact h.len hes⟩

theorem nestOf_val (hg : Gam w0 M N S σ ρ a w) {A : Nat → Prop} : ∀ {l : List A1} {rs : List RC × List Nat}, (dataOf1.nestOf l).val S = some rs → (∀ k ∈ rs.2, (σ k).nil = false → A (σ k).blk) →
    ∃ gs : List (GV × Array Value), l.map (A1.conc σ ρ) = gs.map (fun x => x.1.slv) ∧ rs.1.map (fun r => Value.agg (r.cden ρ).toArray) = gs.map (fun x => Value.agg x.2) ∧
      ∀ x ∈ gs, SliceR w x.1 x.2.toList ∧ LenR x.1 x.2.toList 1 ∧ (x.1.nil = false → A x.1.blk) := by
  intro l
  induction l with
  | nil => intro rs h _; cases h; exact ⟨[], rfl, rfl, fun x h => by cases h⟩
  | cons x l ih =>
    intro rs h hA
    cases x with
    | sl k =>
      simp only [dataOf1.nestOf, Rd.val] at h
      split at h
      · rename_i q hq
        replace h := Rd.chk_val h
        obtain ⟨hb, h⟩ := h
        simp only [Bool.and_eq_true, beq_iff_eq] at hb
        replace h := Rd.bind_val h
        obtain ⟨rs', hrs, h⟩ := h
        cases h
        obtain ⟨gs, g1, g2, g3⟩ := ih hrs fun k hk => hA k (by simp [hk])
        obtain ⟨s1, s2⟩ := row_slice hg hq (by rw [hb.1]; omega) hb.2
        rw [hb.1] at s2
        refine ⟨(σ k, (q.c.cden ρ).toArray) :: gs, by simp [A1.conc, g1], by simp [g2], fun x hx => ?_⟩
        rcases List.mem_cons.1 hx with rfl | hx
        · exact ⟨s1, s2, hA k (by simp)⟩
        · exact g3 x hx
      · cases h
    | lit v =>
      cases v with
      | slice b n c =>
        unfold dataOf1.nestOf at h
        split at h
        · rename_i heq; cases heq
        · rename_i heq; cases heq
        · rename_i heq
          cases heq
          replace h := Rd.bind_val h
          obtain ⟨rs', hrs, h⟩ := h
          cases h
          obtain ⟨gs, g1, g2, g3⟩ := ih hrs fun k hk => hA k (by simpa using hk)
          refine ⟨(⟨0, 0, 0, 0, true⟩, #[]) :: gs, by simp [A1.conc, g1, GV.slv], by rw [List.map_cons, List.map_cons, g2]; rfl, fun x hx => ?_⟩
          rcases List.mem_cons.1 hx with rfl | hx
          · exact ⟨⟨fun _ => ⟨rfl, rfl, rfl⟩, (fun h => by cases h), (fun h => by cases h), (fun c h => by cases h)⟩, ⟨by omega, by simp, Nat.le_refl _⟩, fun h => by cases h⟩
          · exact g3 x hx
        · cases h
      | _ => cases h
    | _ => cases h

theorem dataOf1_val (hg : Gam w0 M N S σ ρ a w) {A : Nat → Prop} {c : S1} {x : A1} {d : D1 × List Nat} (h : (dataOf1 c x).val S = some d) (hA : ∀ k ∈ d.2, (σ k).nil = false → A (σ k).blk) : S1R w A c (x.conc σ ρ) (d.1.den ρ) := by
  unfold dataOf1 at h
  split at h
  · replace h := Rd.chk_val h
    obtain ⟨hp, h⟩ := h
    cases h
    exact A1.conc_pure hp σ ρ
  · replace h := Rd.chk_val h
    obtain ⟨hes, h⟩ := h
    cases h
    exact nil_slice (by simpa using hes)
  · replace h := Rd.chk_val h
    obtain ⟨hes, h⟩ := h
    cases h
    exact nil_slice (by simpa using hes)
  · rename_i es el k
    simp only [Rd.val] at h
    split at h
    · rename_i r hr
      replace h := Rd.chk_val h
      obtain ⟨hb, h⟩ := h
      simp only [Bool.and_eq_true, beq_iff_eq, bne_iff_ne] at hb
      cases h
      obtain ⟨s1, s2⟩ := row_slice hg hr hb.1.2 hb.2
      rw [hb.1.1] at s2
      exact ⟨σ k, (r.c.cden ρ).toArray, rfl, rfl, s1, s2, hA k (by simp)⟩
    · cases h
  · rename_i es k
    simp only [Rd.val] at h
    split at h
    · rename_i r hr
      replace h := Rd.chk_val h
      obtain ⟨hb, h⟩ := h
      simp only [Bool.and_eq_true, beq_iff_eq, bne_iff_ne] at hb
      cases h
      obtain ⟨s1, s2⟩ := row_slice hg hr hb.1.2 hb.2
      rw [hb.1.1] at s2
      exact ⟨σ k, (r.c.cden ρ).toArray, rfl, rfl, s1, s2, hA k (by simp)⟩
    · cases h
  · rename_i n k
    simp only [Rd.val] at h
    split at h
    · rename_i r hr
      split at h
      · rename_i l hl
        replace h := Rd.chk_val h
        obtain ⟨hb, h⟩ := h
        simp only [Bool.and_eq_true, beq_iff_eq] at hb
        replace h := Rd.bind_val h
        obtain ⟨rs, hrs, h⟩ := h
        cases h
        obtain ⟨gs, g1, g2, g3⟩ := nestOf_val hg hrs fun k hk => hA k (by simp [hk])
        have hrow := hg.row k r hr
        have ec : r.c.cont σ ρ = gs.map (fun x => x.1.slv) := by rw [hl]; exact g1
        have hle := hrow.len (by rw [hb.1]; omega)
        rw [hb.1, ec] at hle
        refine ⟨σ k, gs, rfl, ?_, by rw [← ec]; exact hrow.rd, ⟨by omega, hle⟩, hA k (by simp), ?_, g3⟩
        · have := congrArg List.length g1
          simp only [List.length_map] at this
          omega
        · show Value.agg (rs.1.map fun r => Value.agg (r.cden ρ).toArray).toArray = _
          rw [g2]
      · cases h
    · cases h
  · replace h := Rd.chk_val h
    obtain ⟨hn, h⟩ := h
    cases h
    refine ⟨⟨0, 0, 0, 0, true⟩, [], rfl, ?_, ⟨fun _ => ⟨rfl, rfl, rfl⟩, (fun h => by cases h), (fun h => by cases h), (fun c h => by cases h)⟩, ⟨by omega, by simp, Nat.le_refl _⟩, (fun h => by cases h), rfl, fun x h => by cases h⟩
    simpa using (beq_iff_eq.1 hn).symm
  · cases h

theorem dataOfL_val (hg : Gam w0 M N S σ ρ a w) {A : Nat → Prop} : ∀ {cs : List S1} {l : List A1} {d : List D1 × List Nat}, (dataOfL cs l).val S = some d → (∀ k ∈ d.2, (σ k).nil = false → A (σ k).blk) → S1sR w A cs (l.map (A1.conc σ ρ)) (d.1.map (D1.den ρ)) := by
  intro cs
  induction cs with
  | nil =>
    intro l d h _
    cases l with
    | nil => cases h; trivial
    | cons x l => cases h
  | cons c cs ih =>
    intro l d h hA
    cases l with
    | nil => cases h
    | cons x l =>
      replace h := Rd.bind_val (m := dataOf1 c x) h
      obtain ⟨d1, h1, h⟩ := h
      replace h := Rd.bind_val (m := dataOfL cs l) h
      obtain ⟨d2, h2, h⟩ := h
      cases h
      exact ⟨dataOf1_val hg h1 fun k hk => hA k (by simp [hk]), ih h2 fun k hk => hA k (by simp [hk])⟩

theorem dataOf_val (hg : Gam w0 M N S σ ρ a w) {A : Nat → Prop} {c : S2} {v : AV} {d : DE × List Nat} (h : (dataOf c v).val S = some d) (hA : ∀ k ∈ d.2, (σ k).nil = false → A (σ k).blk) : S2R w A c (v.conc σ ρ) (d.1.den ρ) := by
  unfold dataOf at h
  split at h
  · rename_i l
    replace h := Rd.chk_val h
    obtain ⟨hp, h⟩ := h
    cases h
    show _ = _
    simp only [AV.conc, AT.conc, DE.den, map_conc_pure hp, List.map_map, Function.comp_def, D1.den]
  · replace h := Rd.bind_val h
    obtain ⟨d1, h1, h⟩ := h
    cases h
    exact dataOf1_val hg h1 hA
  · replace h := Rd.bind_val h
    obtain ⟨d1, h1, h⟩ := h
    cases h
    exact ⟨_, _, rfl, rfl, dataOfL_val hg h1 hA⟩
  · cases h

theorem dataArgs_val (hg : Gam w0 M N S σ ρ a w) {A : Nat → Prop} : ∀ {cs : List S2} {vs : List AV} {d : List DE × List Nat}, (dataArgs cs vs).val S = some d → (∀ k ∈ d.2, (σ k).nil = false → A (σ k).blk) → ArgsR w A cs (vs.map (AV.conc σ ρ)) (d.1.map (DE.den ρ)) := by
  intro cs
  induction cs with
  | nil =>
    intro l d h _
    cases l with
    | nil => cases h; trivial
    | cons x l => cases h
  | cons c cs ih =>
    intro l d h hA
    cases l with
    | nil => cases h
    | cons x l =>
      replace h := Rd.bind_val (m := dataOf c x) h
      obtain ⟨d1, h1, h⟩ := h
      replace h := Rd.bind_val (m := dataArgs cs l) h
      obtain ⟨d2, h2, h⟩ := h
      cases h
      exact ⟨dataOf_val hg h1 fun k hk => hA k (by simp [hk]), ih h2 fun k hk => hA k (by simp [hk])⟩

/-- the rows that are handed over are rows -/
theorem dataOf1_rows {c : S1} {x : A1} {d : D1 × List Nat} (h : (dataOf1 c x).val S = some d) : ∀ k ∈ d.2, ∃ r, S.row k = some r := by
  have hnest : ∀ {l : List A1} {rs : List RC × List Nat}, (dataOf1.nestOf l).val S = some rs → ∀ k ∈ rs.2, ∃ r, S.row k = some r := by
    intro l
    induction l with
    | nil => intro rs h; cases h; intro k hk; cases hk
    | cons x l ih =>
      intro rs h
      unfold dataOf1.nestOf at h
      split at h
      · cases h; intro k hk; cases hk
      · rename_i k0 l0 heq
        cases heq
        simp only [Rd.val] at h
        split at h
        · rename_i q hq
          replace h := (Rd.chk_val h).2
          replace h := Rd.bind_val h
          obtain ⟨rs', hrs, h⟩ := h
          cases h
          intro k hk
          rcases List.mem_cons.1 hk with rfl | hk
          · exact ⟨q, hq⟩
          · exact ih hrs k hk
        · cases h
      · rename_i heq
        cases heq
        replace h := Rd.bind_val h
        obtain ⟨rs', hrs, h⟩ := h
        cases h
        intro k hk
        exact ih hrs k hk
      · cases h
  unfold dataOf1 at h
  split at h
  · have h := (Rd.chk_val h).2; cases h; intro k hk; cases hk
  · have h := (Rd.chk_val h).2; cases h; intro k hk; cases hk
  · have h := (Rd.chk_val h).2; cases h; intro k hk; cases hk
  · simp only [Rd.val] at h
    split at h
    · rename_i r hr
      have h := (Rd.chk_val h).2; cases h; intro k hk; simp at hk; subst hk; exact ⟨r, hr⟩
    · cases h
  · simp only [Rd.val] at h
    split at h
    · rename_i r hr
      have h := (Rd.chk_val h).2; cases h; intro k hk; simp at hk; subst hk; exact ⟨r, hr⟩
    · cases h
  · simp only [Rd.val] at h
    split at h
    · rename_i r hr
      split at h
      · replace h := (Rd.chk_val h).2
        replace h := Rd.bind_val h
        obtain ⟨rs, hrs, h⟩ := h
        cases h
        intro k hk
        rcases List.mem_cons.1 hk with rfl | hk
        · exact ⟨r, hr⟩
        · exact hnest hrs k hk
      · cases h
    · cases h
  · have h := (Rd.chk_val h).2; cases h; intro k hk; cases hk
  · cases h

theorem own_wr {l : List Nat} {q : List (Nat × Bool)} {k : Nat} (hk : k ∈ l) {S : St} {d : Dl} (hd : d.wr = l.map (fun k => (k, false)) ++ q) : (S.app d).own k = false := by
  simp only [St.own, St.app, hd, lk_append]
  have : lk (l.map fun k => (k, false)) k = some false := by
    clear hd
    induction l with
    | nil => cases hk
    | cons x l ih =>
      simp only [List.map_cons, lk]
      split
      · rfl
      · rename_i hne
        rcases List.mem_cons.1 hk with rfl | hk
        · exact absurd rfl hne
        · exact ih hk
  rw [this]; rfl

theorem dataOfL_rows : ∀ {cs : List S1} {l : List A1} {d : List D1 × List Nat}, (dataOfL cs l).val S = some d → ∀ k ∈ d.2, ∃ r, S.row k = some r := by
  intro cs
  induction cs with
  | nil =>
    intro l d h
    cases l with
    | nil => cases h; intro k hk; cases hk
    | cons x l => cases h
  | cons c cs ih =>
    intro l d h
    cases l with
    | nil => cases h
    | cons x l =>
      replace h := Rd.bind_val (m := dataOf1 c x) h
      obtain ⟨d1, h1, h⟩ := h
      replace h := Rd.bind_val (m := dataOfL cs l) h
      obtain ⟨d2, h2, h⟩ := h
      cases h
      intro k hk
      rcases List.mem_append.1 hk with hk | hk
      · exact dataOf1_rows h1 k hk
      · exact ih h2 k hk

theorem dataArgs_rows : ∀ {cs : List S2} {vs : List AV} {d : List DE × List Nat}, (dataArgs cs vs).val S = some d → ∀ k ∈ d.2, ∃ r, S.row k = some r := by
  intro cs
  induction cs with
  | nil =>
    intro l d h
    cases l with
    | nil => cases h; intro k hk; cases hk
    | cons x l => cases h
  | cons c cs ih =>
    intro l d h
    cases l with
    | nil => cases h
    | cons x l =>
      replace h := Rd.bind_val (m := dataOf c x) h
      obtain ⟨d1, h1, h⟩ := h
      replace h := Rd.bind_val (m := dataArgs cs l) h
      obtain ⟨d2, h2, h⟩ := h
      cases h
      intro k hk
      rcases List.mem_append.1 hk with hk | hk
      · unfold dataOf at h1
        split at h1
        · have h1 := (Rd.chk_val h1).2; cases h1; cases hk
        · replace h1 := Rd.bind_val h1
          obtain ⟨q, q1, h1⟩ := h1
          cases h1
          exact dataOf1_rows q1 k hk
        · replace h1 := Rd.bind_val h1
          obtain ⟨q, q1, h1⟩ := h1
          cases h1
          exact dataOfL_rows q1 k hk
        · cases h1
      · exact ih h2 k hk
end
end Go.Sx
