/- Steps; words with carries. -/
import Derived.Test.YtpeafegfjhljmaaVB
import Derived.Laws.Externs
/-
  Commands, step by step: a new value for each, as a plain number.
-/
namespace Go.Sx

def U (n : Nat) : Value := .int .u64 (n : Int)
def I (n : Nat) : Value := .int .i64 (n : Int)
def B (n : Nat) : Value := .int .u8 (n : Int)
def Bo (b : Bool) : Value := .bool b

def ibin (op : BinOp) (k : IntKind) (a b : Int) : Option Value :=
  match op with
  | .add => some (.int k (k.wrap (a + b)))
  | .sub => some (.int k (k.wrap (a - b)))
  | .mul => some (.int k (k.wrap (a * b)))
  | .quo => if b = 0 then none else some (.int k (k.wrap (a.tdiv b)))
  | .rem => if b = 0 then none else some (.int k (a.tmod b))
  | .and => some (.int k (k.wrap (BitVec.ofInt k.bits a &&& BitVec.ofInt k.bits b).toNat))
  | .or => some (.int k (k.wrap (BitVec.ofInt k.bits a ||| BitVec.ofInt k.bits b).toNat))
  | .xor => some (.int k (k.wrap (BitVec.ofInt k.bits a ^^^ BitVec.ofInt k.bits b).toNat))
  | .eql => some (.bool (a == b))
  | .neq => some (.bool (a != b))
  | .lss => some (.bool (decide (a < b)))
  | .leq => some (.bool (decide (a ≤ b)))
  | .gtr => some (.bool (decide (a > b)))
  | .geq => some (.bool (decide (a ≥ b)))
  | _ => none

def ishift (op : BinOp) (k : IntKind) (a b : Int) : Option Value :=
  if b < 0 then none else match op with
  | .shl => some (.int k (k.wrap (a * 2 ^ (min b.toNat k.bits))))
  | .shr => some (.int k (a.fdiv (2 ^ (min b.toNat k.bits))))
  | _ => none

/-- the values named so far, the last first -/
def lr (n : Nat) (env : List Value) : Nat → Value := fun m => if m < n then env.getD (n - 1 - m) undef else undef

def VR (P : Program) (G : Glb) : List Cmd → Nat → List Value → (List Value → Prop) → Prop
  | [], _, env, k => k env
  | c :: cs, n, env, k => match c.tgt with
    | some v => ∃ x, v = n ∧ c.holds P G (lr (v + 1) (x :: env)) ∧ VR P G cs (v + 1) (x :: env) k
    | none => c.holds P G (lr n env) ∧ VR P G cs n env k

theorem lr_eq {n : Nat} {env : List Value} (h : env.length = n) : lr n env = lv env.reverse := by
  funext m
  simp only [lr, lv, List.getD_eq_getElem?_getD]
  split
  · rename_i hm
    rw [List.getElem?_reverse (by omega), h]
  · rename_i hm
    rw [List.getElem?_eq_none (by simp; omega)]
    rfl

theorem VC_of_VR {P : Program} {G : Glb} : ∀ {cs : List Cmd} {n : Nat} {env : List Value} {k : List Value → Prop}, env.length = n → VR P G cs n env (fun e => k e.reverse) → VC P G cs env.reverse k := by
  intro cs
  induction cs with
  | nil => intro n env k _ h; exact h
  | cons c cs ih =>
    intro n env k hl h
    simp only [VR] at h
    simp only [VC]
    split at h
    · rename_i v hv
      obtain ⟨x, hvn, h1, h2⟩ := h
      rw [hv]
      have e : (x :: env).reverse = env.reverse ++ [x] := by simp
      refine ⟨x, ?_, ?_⟩
      · rw [← e, ← lr_eq (n := v + 1) (by simp [hl, hvn])]; exact h1
      · rw [← e]; exact ih (by simp [hl, hvn]) h2
    · rename_i hv
      rw [hv]
      exact ⟨by rw [← lr_eq hl]; exact h.1, ih hl h.2⟩

theorem Jd.go {P : Program} {G : Glb} {C : Cfg} {X : Cx P G C} {Q : Exit → Act → World → Prop} {S : St} {k : List It} {e : Ex} {l : List Value} {d : Nat → Option Bool} {u fuel gb : Nat} {r : Ran} (n : Nat) (env : List Value)
    (hn : env.length = n) (he : env.reverse = l) (h : ex1 C d u fuel gb n S k e = some r)
    (hv : VR P G r.cm n env fun env => JF X Q env.reverse r.f) : Jd X Q S k e l := by
  subst he
  refine Jd.run (d := d) (u := u) (fuel := fuel) (gb := gb) (r := r) (by rw [List.length_reverse, hn]; exact h) (VC_of_VR hn hv)

section
variable {P : Program} {G : Glb} {T : Nat} {a b : AV} {v : Nat} {cs : List Cmd} {n : Nat} {l : List Value} {K : List Value → Prop}

theorem guard_int {op : BinOp} {s t : Operand} {k k' : IntKind} {x y : Int} (w : World) : (eqGuard op T s t (.int k x) (.int k' y)).run P w = .ok () w := by
  unfold eqGuard
  split <;> rfl

theorem ibin_run {op : BinOp} {k : IntKind} {x y : Int} {r : Value} (h : ibin op k x y = some r) (w : World) : (do eqGuard op T (.tmp 0) (.tmp 0) (.int k x) (.int k y); binOp op T (.int k x) (.int k y)).run P w = .ok r w := by
  rw [Sem.run_bind, guard_int]
  show (binOp op T (.int k x) (.int k y)).run P w = .ok r w
  cases op <;> simp only [ibin, reduceCtorEq] at h
  case quo => split at h <;> cases h; rename_i h0; simp [binOp, Op.intDiv, h0]
  case rem => split at h <;> cases h; rename_i h0; simp [binOp, Op.intDiv, h0]
  all_goals (cases h; simp [binOp, Op.intArith, Op.intCmp, Op.intBits])

theorem ishift_run {op : BinOp} {k k' : IntKind} {x y : Int} {r : Value} (h : ishift op k x y = some r) (w : World) : (do eqGuard op T (.tmp 0) (.tmp 0) (.int k x) (.int k' y); binOp op T (.int k x) (.int k' y)).run P w = .ok r w := by
  rw [Sem.run_bind, guard_int]
  show (binOp op T (.int k x) (.int k' y)).run P w = .ok r w
  unfold ishift at h
  split at h
  · cases h
  · rename_i h0
    cases op <;> simp only [reduceCtorEq] at h
    all_goals (cases h; simp [binOp, Op.shift, h0])

theorem vc_bin {op : BinOp} {k : IntKind} {x y : Int} {r : Value} (h1 : ∀ z, a.den (lr (v + 1) (z :: l)) = .int k x) (h2 : ∀ z, b.den (lr (v + 1) (z :: l)) = .int k y) (hv : v = n) (hr : ibin op k x y = some r)
    (hk : VR P G cs (v + 1) (r :: l) K) : VR P G (.bin op T a b v :: cs) n l K := by
  simp only [VR, Cmd.tgt]
  refine ⟨r, hv, ⟨by rw [h1]; simp, fun w => ?_⟩, hk⟩
  rw [h1, h2, ibin_run hr w]
  simp [lr]
theorem vc_shift {op : BinOp} {k k' : IntKind} {x y : Int} {r : Value} (h1 : ∀ z, a.den (lr (v + 1) (z :: l)) = .int k x) (h2 : ∀ z, b.den (lr (v + 1) (z :: l)) = .int k' y) (hv : v = n) (hr : ishift op k x y = some r)
    (hk : VR P G cs (v + 1) (r :: l) K) : VR P G (.bin op T a b v :: cs) n l K := by
  simp only [VR, Cmd.tgt]
  refine ⟨r, hv, ⟨by rw [h1]; simp, fun w => ?_⟩, hk⟩
  rw [h1, h2, ishift_run hr w]
  simp [lr]

theorem wrap_us {k : IntKind} (hk : k.signed = false) (n : Int) : k.wrap n = n % (2 ^ k.bits : Int) := by
  unfold IntKind.wrap
  simp [hk]
theorem wrap_u64 (n : Nat) : IntKind.wrap .u64 (n : Int) = ((n % 18446744073709551616 : Nat) : Int) := by
  rw [wrap_us rfl]
  have : (2:Int) ^ (IntKind.u64).bits = 18446744073709551616 := by decide
  rw [this]; omega
theorem wrap_u8 (n : Nat) : IntKind.wrap .u8 (n : Int) = ((n % 256 : Nat) : Int) := by
  rw [wrap_us rfl]
  have : (2:Int) ^ (IntKind.u8).bits = 256 := by decide
  rw [this]; omega
theorem wrap_u64_sub {x y : Nat} (hy : y < 18446744073709551616) : IntKind.wrap .u64 ((x : Int) - y) = (((x + 18446744073709551616 - y) % 18446744073709551616 : Nat) : Int) := by
  rw [wrap_us rfl]
  have : (2:Int) ^ (IntKind.u64).bits = 18446744073709551616 := by decide
  rw [this]; omega

theorem vc_add64 {x y : Nat} (h1 : ∀ z, a.den (lr (v + 1) (z :: l)) = U x) (h2 : ∀ z, b.den (lr (v + 1) (z :: l)) = U y) (hv : v = n)
    (hk : ∀ t, t = (x + y) % 18446744073709551616 → VR P G cs (v + 1) (U t :: l) K) : VR P G (.bin .add T a b v :: cs) n l K := by
  refine vc_bin h1 h2 hv rfl ?_
  have e : IntKind.wrap .u64 ((x : Int) + y) = (((x + y) % 18446744073709551616 : Nat) : Int) := by rw [← wrap_u64]; rfl
  rw [e]; exact hk _ rfl
theorem vc_mul64 {x y : Nat} (h1 : ∀ z, a.den (lr (v + 1) (z :: l)) = U x) (h2 : ∀ z, b.den (lr (v + 1) (z :: l)) = U y) (hv : v = n)
    (hk : ∀ t, t = (x * y) % 18446744073709551616 → VR P G cs (v + 1) (U t :: l) K) : VR P G (.bin .mul T a b v :: cs) n l K := by
  refine vc_bin h1 h2 hv rfl ?_
  have e : IntKind.wrap .u64 ((x : Int) * y) = (((x * y) % 18446744073709551616 : Nat) : Int) := by rw [← wrap_u64]; rfl
  rw [e]; exact hk _ rfl
theorem vc_sub64 {x y : Nat} (h1 : ∀ z, a.den (lr (v + 1) (z :: l)) = U x) (h2 : ∀ z, b.den (lr (v + 1) (z :: l)) = U y) (hv : v = n) (hy : y < 18446744073709551616)
    (hk : ∀ t, t = (x + 18446744073709551616 - y) % 18446744073709551616 → VR P G cs (v + 1) (U t :: l) K) : VR P G (.bin .sub T a b v :: cs) n l K := by
  refine vc_bin h1 h2 hv rfl ?_
  rw [wrap_u64_sub hy]; exact hk _ rfl
theorem vc_and64 {x y : Nat} (h1 : ∀ z, a.den (lr (v + 1) (z :: l)) = U x) (h2 : ∀ z, b.den (lr (v + 1) (z :: l)) = U y) (hv : v = n) (hx : x < 18446744073709551616) (hy : y < 18446744073709551616)
    (hk : ∀ t, t = x &&& y → VR P G cs (v + 1) (U t :: l) K) : VR P G (.bin .and T a b v :: cs) n l K := by
  refine vc_bin h1 h2 hv rfl ?_
  have e : (BitVec.ofInt (IntKind.u64).bits (x : Int) &&& BitVec.ofInt (IntKind.u64).bits (y : Int)).toNat = x &&& y := by
    show ((BitVec.ofInt 64 (x : Int)) &&& BitVec.ofInt 64 (y : Int)).toNat = x &&& y
    simp only [BitVec.ofInt_natCast, BitVec.toNat_and, BitVec.toNat_ofNat]
    rw [Nat.mod_eq_of_lt hx, Nat.mod_eq_of_lt hy]
  have hlt : x &&& y < 18446744073709551616 := Nat.lt_of_le_of_lt Nat.and_le_left hx
  rw [e, wrap_u64, Nat.mod_eq_of_lt hlt]; exact hk _ rfl
theorem vc_or64 {x y : Nat} (h1 : ∀ z, a.den (lr (v + 1) (z :: l)) = U x) (h2 : ∀ z, b.den (lr (v + 1) (z :: l)) = U y) (hv : v = n) (hx : x < 18446744073709551616) (hy : y < 18446744073709551616)
    (hk : ∀ t, t = x ||| y → VR P G cs (v + 1) (U t :: l) K) : VR P G (.bin .or T a b v :: cs) n l K := by
  refine vc_bin h1 h2 hv rfl ?_
  have e : (BitVec.ofInt (IntKind.u64).bits (x : Int) ||| BitVec.ofInt (IntKind.u64).bits (y : Int)).toNat = x ||| y := by
    show ((BitVec.ofInt 64 (x : Int)) ||| BitVec.ofInt 64 (y : Int)).toNat = x ||| y
    simp only [BitVec.ofInt_natCast, BitVec.toNat_or, BitVec.toNat_ofNat]
    rw [Nat.mod_eq_of_lt hx, Nat.mod_eq_of_lt hy]
  have hlt : x ||| y < 18446744073709551616 := Nat.or_lt_two_pow (n := 64) hx hy
  rw [e, wrap_u64, Nat.mod_eq_of_lt hlt]; exact hk _ rfl
theorem shr_nat (x n : Nat) : ((x : Int).fdiv (2 ^ n)) = ((x / 2 ^ n : Nat) : Int) := by
  have : ((2:Int) ^ n) = ((2 ^ n : Nat) : Int) := by simp
  rw [this, Int.fdiv_eq_ediv_of_nonneg _ (Int.natCast_nonneg _)]
  rfl
theorem vc_shr64 {x y : Nat} {k' : IntKind} (h1 : ∀ z, a.den (lr (v + 1) (z :: l)) = U x) (h2 : ∀ z, b.den (lr (v + 1) (z :: l)) = .int k' (y : Int)) (hv : v = n) (hy : y ≤ 64)
    (hk : ∀ t, t = x / 2 ^ y → VR P G cs (v + 1) (U t :: l) K) : VR P G (.bin .shr T a b v :: cs) n l K := by
  refine vc_shift h1 h2 hv (r := U (x / 2 ^ y)) ?_ (hk _ rfl)
  have : ¬ ((y : Int) < 0) := by omega
  simp only [ishift, this, if_false, Int.toNat_natCast]
  rw [show min y (IntKind.u64).bits = y from Nat.min_eq_left hy, shr_nat]; rfl
theorem vc_shl64 {x y : Nat} {k' : IntKind} (h1 : ∀ z, a.den (lr (v + 1) (z :: l)) = U x) (h2 : ∀ z, b.den (lr (v + 1) (z :: l)) = .int k' (y : Int)) (hv : v = n) (hy : y ≤ 64)
    (hk : ∀ t, t = x * 2 ^ y % 18446744073709551616 → VR P G cs (v + 1) (U t :: l) K) : VR P G (.bin .shl T a b v :: cs) n l K := by
  refine vc_shift h1 h2 hv (r := U (x * 2 ^ y % 18446744073709551616)) ?_ (hk _ rfl)
  have : ¬ ((y : Int) < 0) := by omega
  simp only [ishift, this, if_false, Int.toNat_natCast]
  rw [show min y (IntKind.u64).bits = y from Nat.min_eq_left hy]
  have e : ((x : Int) * 2 ^ y) = ((x * 2 ^ y : Nat) : Int) := by simp
  rw [e, wrap_u64]; rfl
theorem vc_eql64 {x y : Nat} (h1 : ∀ z, a.den (lr (v + 1) (z :: l)) = U x) (h2 : ∀ z, b.den (lr (v + 1) (z :: l)) = U y) (hv : v = n)
    (hk : ∀ t, t = (x == y) → VR P G cs (v + 1) (Bo t :: l) K) : VR P G (.bin .eql T a b v :: cs) n l K := by
  refine vc_bin h1 h2 hv rfl ?_
  have e : ((x : Int) == (y : Int)) = (x == y) := by
    rw [Bool.eq_iff_iff]; simp only [beq_iff_eq]; omega
  rw [e]; exact hk _ rfl

/-- a call, by its contract -/
theorem vc_call {f : Nat} {fs : FS} {args : List DE} {ds : List Value} {r : Value} {Φ : List Value → Value → Prop} (hc : Ctr P G f fs Φ) (h1 : ∀ z, args.map (DE.den (lr (v + 1) (z :: l))) = ds) (hv : v = n) (hΦ : Φ ds r)
    (hk : VR P G cs (v + 1) (r :: l) K) : VR P G (.call f fs args v :: cs) n l K := by
  simp only [VR, Cmd.tgt]
  refine ⟨r, hv, ⟨Φ, hc, ?_⟩, hk⟩
  rw [h1]
  simpa [lr] using hΦ
theorem vc_tupc {m i : Nat} {vs : Array Value} {r : Value} (h1 : ∀ z, lr (v + 1) (z :: l) m = .tuple vs) (h2 : vs[i]? = some r) (hv : v = n)
    (hk : VR P G cs (v + 1) (r :: l) K) : VR P G (.tupc m i v :: cs) n l K := by
  simp only [VR, Cmd.tgt]
  refine ⟨r, hv, ⟨vs, h1 r, ?_⟩, hk⟩
  rw [h2]
  simp [lr]
theorem vc_isAgg {m k : Nat} {cells : Array Value} (h1 : lr n l m = .agg cells) (h2 : cells.size = k) (h3 : cells.toList.all Value.oneCell' = true) (hk : VR P G cs n l K) : VR P G (.isAgg m k :: cs) n l K := by
  simp only [VR, Cmd.tgt]
  exact ⟨⟨cells, h1, h2, fun c hc => List.all_eq_true.1 h3 c hc⟩, hk⟩
theorem vc_isBool {m : Nat} {t : Bool} (h1 : lr n l m = .bool t) (hk : VR P G cs n l K) : VR P G (.isBool m t :: cs) n l K := by
  simp only [VR, Cmd.tgt]
  exact ⟨h1, hk⟩
theorem vc_isOne {x : A1} (h1 : (x.den (lr n l)).oneCell' = true) (hk : VR P G cs n l K) : VR P G (.isOne x :: cs) n l K := by
  simp only [VR, Cmd.tgt]
  exact ⟨h1, hk⟩
theorem vc_nil (hk : K l) : VR P G [] n l K := hk
end
end Go.Sx

/-
  Words with carries: the two calls that the model answers itself. Numbers of four and of eight words.
-/
namespace Go.Sx
open Go.RowKit (Below)

/-- the second of the two calls that the model answers itself -/
def sub64E : Array Value → Sem Value := match Extern.MathBitsCarry.rows with
  | [_, r] => r.2
  | _ => fun _ => pure undef

theorem run_sub64E {P : Program} (x y b : Nat) (hb : b ≤ 1) (w : World) :
    (sub64E #[.int .u64 x, .int .u64 y, .int .u64 b]).run P w =
      .ok (.tuple #[.int .u64 (((x + 18446744073709551616 - y - b) % 18446744073709551616 : Nat) : Int), .int .u64 ((if x < y + b then 1 else 0 : Nat) : Int)]) w := by
  have : b = 0 ∨ b = 1 := by omega
  rcases this with rfl | rfl <;> rfl

def f3 : FS := ⟨none, [.one .v, .one .v, .one .v], .tup [.one .v, .one .v]⟩

def Add64Φ (ds : List Value) (r : Value) : Prop := ∃ x y c : Nat, c ≤ 1 ∧ ds = [U x, U y, U c] ∧ r = .tuple #[U ((x + y + c) % 18446744073709551616), U ((x + y + c) / 18446744073709551616)]
def Sub64Φ (ds : List Value) (r : Value) : Prop := ∃ x y c : Nat, c ≤ 1 ∧ ds = [U x, U y, U c] ∧ r = .tuple #[U ((x + 18446744073709551616 - y - c) % 18446744073709551616), U (if x < y + c then 1 else 0)]

section
variable {P : Program} {G : Glb}

theorem args3 {w : World} {A : Nat → Prop} {vs : List Value} {a b c : Value} (h : ArgsR w A f3.args vs [a, b, c]) : vs = [a, b, c] := by
  match vs, h with
  | [x, y, z], ⟨h1, h2, h3, _⟩ => rw [show x = a from h1, show y = b from h2, show z = c from h3]

theorem add64_ctr {f : Nat} {fn : Func} (hf : P.funcs[f]? = some fn) (hname : (fn.name == "runtime.NumGoroutine") = false)
    (hb : fn.body.isNone = true) (hn : Extern.findNext fn = none) (he : Extern.find fn = some add64Entry) : Ctr P G f f3 Add64Φ := by
  rintro w A vs ds r hG hA ⟨x, y, c, hc, rfl, rfl⟩
  rw [args3 hA]
  refine .inl ⟨_, w, ?_, rfl, Below.refl _ w⟩
  show (callFunc f #[U x, U y, U c]).run P w = _
  rw [run_callFunc_extern hf hname hb hn he]
  rw [show U x = .int .u64 (x : Int) from rfl, show U y = .int .u64 (y : Int) from rfl, show U c = .int .u64 (c : Int) from rfl]
  rw [run_add64 x y c (by omega) (by omega) (by omega) (by omega)]
  simp only [Result.andThen, U]
  congr 5 <;> omega

theorem sub64_ctr {f : Nat} {fn : Func} (hf : P.funcs[f]? = some fn) (hname : (fn.name == "runtime.NumGoroutine") = false)
    (hb : fn.body.isNone = true) (hn : Extern.findNext fn = none) (he : Extern.find fn = some sub64E) : Ctr P G f f3 Sub64Φ := by
  rintro w A vs ds r hG hA ⟨x, y, c, hc, rfl, rfl⟩
  rw [args3 hA]
  refine .inl ⟨_, w, ?_, rfl, Below.refl _ w⟩
  show (callFunc f #[U x, U y, U c]).run P w = _
  rw [run_callFunc_extern hf hname hb hn he]
  rw [show U x = .int .u64 (x : Int) from rfl, show U y = .int .u64 (y : Int) from rfl, show U c = .int .u64 (c : Int) from rfl]
  rw [run_sub64E x y c hc]
  rfl
end

abbrev w64 : Nat := 18446744073709551616
/-- the words of a number -/
def wds : Nat → Nat → List Value
  | 0, _ => []
  | k + 1, n => U (n % 18446744073709551616) :: wds k (n / 18446744073709551616)
def NV (n : Nat) : Value := .agg (wds 4 n).toArray
def WV (n : Nat) : Value := .agg (wds 8 n).toArray
theorem NV_eq {n a b c d : Nat} (ha : a < 18446744073709551616) (hb : b < 18446744073709551616) (hc : c < 18446744073709551616) (hd : d < 18446744073709551616)
    (h : n = a + 18446744073709551616 * (b + 18446744073709551616 * (c + 18446744073709551616 * d))) : NV n = .agg #[U a, U b, U c, U d] := by
  have h0 : n % 18446744073709551616 = a := by omega
  have h1 : n / 18446744073709551616 = b + 18446744073709551616 * (c + 18446744073709551616 * d) := by omega
  have h2 : (b + 18446744073709551616 * (c + 18446744073709551616 * d)) % 18446744073709551616 = b := by omega
  have h3 : (b + 18446744073709551616 * (c + 18446744073709551616 * d)) / 18446744073709551616 = c + 18446744073709551616 * d := by omega
  have h4 : (c + 18446744073709551616 * d) % 18446744073709551616 = c := by omega
  have h5 : (c + 18446744073709551616 * d) / 18446744073709551616 = d := by omega
  have h6 : d % 18446744073709551616 = d := by omega
  simp only [NV, wds, h0, h1, h2, h3, h4, h5, h6]
/-- the words of a number below 2^256 -/
theorem NV_split {n : Nat} (h : n < 2 ^ 256) : ∃ a b c d, a < 18446744073709551616 ∧ b < 18446744073709551616 ∧ c < 18446744073709551616 ∧ d < 18446744073709551616 ∧
    n = a + 18446744073709551616 * (b + 18446744073709551616 * (c + 18446744073709551616 * d)) ∧ NV n = .agg #[U a, U b, U c, U d] := by
  have e : (2:Nat) ^ 256 = 115792089237316195423570985008687907853269984665640564039457584007913129639936 := by decide
  rw [e] at h
  refine ⟨n % 18446744073709551616, n / 18446744073709551616 % 18446744073709551616, n / 18446744073709551616 / 18446744073709551616 % 18446744073709551616, n / 18446744073709551616 / 18446744073709551616 / 18446744073709551616, by omega, by omega, by omega, by omega, by omega, ?_⟩
  exact NV_eq (by omega) (by omega) (by omega) (by omega) (by omega)
end Go.Sx
namespace Go.Sx
section
variable {P : Program} {G : Glb} {f v v1 v2 n : Nat} {cs : List Cmd} {l : List Value} {K : List Value → Prop} {args : List DE}
theorem vc_add64c {x y c : Nat} (hc : Ctr P G f f3 Add64Φ) (h1 : ∀ z, args.map (DE.den (lr (v + 1) (z :: l))) = [U x, U y, U c]) (hc1 : c ≤ 1) (hv : v = n) (e1 : v1 = n + 1) (e2 : v2 = n + 2)
    (hk : ∀ s t, s = (x + y + c) % 18446744073709551616 → t = (x + y + c) / 18446744073709551616 → VR P G cs (v2 + 1) (U t :: U s :: .tuple #[U s, U t] :: l) K) :
    VR P G (.call f f3 args v :: .tupc v 0 v1 :: .tupc v 1 v2 :: cs) n l K := by
  subst hv; subst e1; subst e2
  refine vc_call hc h1 rfl ⟨x, y, c, hc1, rfl, rfl⟩ ?_
  refine vc_tupc (vs := #[U ((x + y + c) % 18446744073709551616), U ((x + y + c) / 18446744073709551616)]) (r := U ((x + y + c) % 18446744073709551616)) (fun z => ?_) rfl rfl ?_
  · simp [lr, List.getD]; omega
  refine vc_tupc (vs := #[U ((x + y + c) % 18446744073709551616), U ((x + y + c) / 18446744073709551616)]) (r := U ((x + y + c) / 18446744073709551616)) (fun z => ?_) rfl rfl ?_
  · simp [lr, List.getD]; omega
  exact hk _ _ rfl rfl
theorem vc_sub64c {x y c : Nat} (hc : Ctr P G f f3 Sub64Φ) (h1 : ∀ z, args.map (DE.den (lr (v + 1) (z :: l))) = [U x, U y, U c]) (hc1 : c ≤ 1) (hv : v = n) (e1 : v1 = n + 1) (e2 : v2 = n + 2)
    (hk : ∀ s t, s = (x + 18446744073709551616 - y - c) % 18446744073709551616 → t = (if x < y + c then 1 else 0) → VR P G cs (v2 + 1) (U t :: U s :: .tuple #[U s, U t] :: l) K) :
    VR P G (.call f f3 args v :: .tupc v 0 v1 :: .tupc v 1 v2 :: cs) n l K := by
  subst hv; subst e1; subst e2
  refine vc_call hc h1 rfl ⟨x, y, c, hc1, rfl, rfl⟩ ?_
  refine vc_tupc (vs := #[U ((x + 18446744073709551616 - y - c) % 18446744073709551616), U (if x < y + c then 1 else 0)]) (r := U ((x + 18446744073709551616 - y - c) % 18446744073709551616)) (fun z => ?_) rfl rfl ?_
  · simp [lr, List.getD]; omega
  refine vc_tupc (vs := #[U ((x + 18446744073709551616 - y - c) % 18446744073709551616), U (if x < y + c then 1 else 0)]) (r := U (if x < y + c then 1 else 0)) (fun z => ?_) rfl rfl ?_
  · simp [lr, List.getD]; omega
  exact hk _ _ rfl rfl
end
end Go.Sx
