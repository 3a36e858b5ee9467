/- Texts and truth values compared. -/
import Derived.Test.YtpeafegfjhljmaaVP
import Derived.Laws.StructEq
/-
  Texts and truth values compared; small words added.
-/
namespace Go.Sx
open Ed (F P inv pw Pt)

def toB (l : List Nat) : List UInt8 := l.map UInt8.ofNat
def STR (l : List Nat) : Value := .string ⟨(toB l).toArray⟩
theorem toB_eq {l : List Nat} (h : isB l) : l.map (IK .u8) = bytesV (toB l) := by
  unfold bytesV toB
  rw [List.map_map]
  apply List.map_congr_left
  intro b hb
  have := h b hb
  simp [IK, Nat.mod_eq_of_lt this]
theorem toB_inj {l m : List Nat} (hl : isB l) (hm : isB m) : toB l = toB m ↔ l = m := by
  constructor
  · intro e
    have h1 := toB_eq hl
    rw [e, ← toB_eq hm] at h1
    have : ∀ (a b : List Nat), a.map (IK .u8) = b.map (IK .u8) → a = b := by
      intro a
      induction a with
      | nil => intro b h; cases b with
        | nil => rfl
        | cons y b => simp at h
      | cons x a ih => intro b h; cases b with
        | nil => simp at h
        | cons y b =>
          simp only [List.map_cons, List.cons.injEq, IK, Value.int.injEq] at h
          rw [ih b h.2]
          congr 1
          omega
    exact this l m h1
  · intro e; rw [e]

section
variable {Pr : Program} {G : Glb} {T : Nat} {a b : AV} {v : Nat} {cs : List Cmd} {n : Nat} {l : List Value} {K : List Value → Prop}

theorem vc_eqlBo {x y : Bool} (hT : Pr.underlying T = some .bool) (h1 : ∀ z, a.den (lr (v + 1) (z :: l)) = Bo x) (h2 : ∀ z, b.den (lr (v + 1) (z :: l)) = Bo y) (hv : v = n)
    (hk : VR Pr G cs (v + 1) (Bo (x == y) :: l) K) : VR Pr G (.bin .eql T a b v :: cs) n l K := by
  simp only [VR, Cmd.tgt]
  refine ⟨_, hv, ⟨by rw [h1]; simp [Bo], fun w => ?_⟩, hk⟩
  rw [h1, h2, Sem.run_bind]
  have hg : (eqGuard .eql T (.tmp 0) (.tmp 0) (Bo x) (Bo y)).run Pr w = .ok () w := rfl
  rw [hg]
  simp only [Result.andThen_ok]
  show (binOp .eql T (.bool x) (.bool y)).run Pr w = _
  simp only [binOp, Op.equal, Op.maxDepth, Sem.run_bind, run_equalIn_bool w 9999 T x y hT, Result.andThen_ok]
  simp [lr, Bo]
theorem vc_eqlS {u t : List Nat} (hu : isB u) (ht : isB t) (h1 : ∀ z, a.den (lr (v + 1) (z :: l)) = STR u) (h2 : ∀ z, b.den (lr (v + 1) (z :: l)) = STR t) (hv : v = n)
    (hk : VR Pr G cs (v + 1) (Bo (decide (u = t)) :: l) K) : VR Pr G (.bin .eql T a b v :: cs) n l K := by
  simp only [VR, Cmd.tgt]
  refine ⟨_, hv, ⟨by rw [h1]; simp [STR], fun w => ?_⟩, hk⟩
  rw [h1, h2, Sem.run_bind]
  have hg : (eqGuard .eql T (.tmp 0) (.tmp 0) (STR u) (STR t)).run Pr w = .ok () w := rfl
  rw [hg]
  simp only [Result.andThen_ok]
  have e : (toB u == toB t) = decide (u = t) := by
    rw [Bool.eq_iff_iff, decide_eq_true_eq, ← toB_inj hu ht, beq_iff_eq]
  show (binOp .eql T (.string ⟨(toB u).toArray⟩) (.string ⟨(toB t).toArray⟩)).run Pr w = _
  simp [binOp, Op.stringOp, e, lr, Bo]
theorem vc_tostrB {r : RC} {u : List Nat} (hu : isB u) (h1 : ∀ z, r.cden (lr (v + 1) (z :: l)) = u.map (IK .u8)) (hv : v = n) (hk : VR Pr G cs (v + 1) (STR u :: l) K) : VR Pr G (.tostr r v :: cs) n l K :=
  vc_tostr (fun z => by rw [h1, toB_eq hu]) hv hk
theorem vc_mul8 {x y : Nat} (h1 : ∀ z, a.den (lr (v + 1) (z :: l)) = IK .u8 x) (h2 : ∀ z, b.den (lr (v + 1) (z :: l)) = IK .u8 y) (hv : v = n)
    (hk : VR Pr G cs (v + 1) (IK .u8 (x * y % 256) :: l) K) : VR Pr G (.bin .mul T a b v :: cs) n l K := by
  refine vc_bin h1 h2 hv rfl ?_
  have e : IntKind.wrap .u8 ((x : Int) * y) = ((x * y % 256 : Nat) : Int) := by rw [← wrap_u8]; rfl
  rw [e]; exact hk
theorem vc_add8 {x y : Nat} (h1 : ∀ z, a.den (lr (v + 1) (z :: l)) = IK .u8 x) (h2 : ∀ z, b.den (lr (v + 1) (z :: l)) = IK .u8 y) (hv : v = n)
    (hk : VR Pr G cs (v + 1) (IK .u8 ((x + y) % 256) :: l) K) : VR Pr G (.bin .add T a b v :: cs) n l K := by
  refine vc_bin h1 h2 hv rfl ?_
  have e : IntKind.wrap .u8 ((x : Int) + y) = (((x + y) % 256 : Nat) : Int) := by rw [← wrap_u8]; rfl
  rw [e]; exact hk
end

theorem bytes_top2 (y b : Nat) (hy : y < 2 ^ 255) (hb : b < 2) : (bytesOf 32 y).set 31 ((y / 256 ^ 31 % 256 + b * 128 % 256) % 256) = bytesOf 32 (y + 2 ^ 255 * b) := by
  rw [← bytes_top y b hy hb]
  congr 1
  have p31 : (256 : Nat) ^ 31 = 452312848583266388373324160190187140051835877600158453279131187530910662656 := by decide
  have hlt : y / 256 ^ 31 < 2 ^ 7 := by rw [p31]; rw [p255] at hy; omega
  rw [Nat.mod_eq_of_lt (a := y / 256 ^ 31) (by omega), Nat.mod_eq_of_lt (a := b * 2 ^ 7) (by omega), or_add _ _ _ hlt]
  omega
theorem sumP8 (p : Pt) : Ed.sumP [p, p, p, p, p, p, p, p] = Ed.smul 8 p := rfl
theorem y_one {p : Pt} (h : p.y = 1) : p = 0 := by
  have hp := p.on
  unfold Ed.On at hp
  rw [h] at hp
  have hd : Ed.d + 1 ≠ 0 := by decide
  have e : ∀ x d : F, 1 * 1 - x * x = 1 + d * x * x * 1 * 1 → x * x * (d + 1) = 0 := fun x d hx => by grind
  have h1 := (Ed.mul_eq_zero (e p.x Ed.d hp)).resolve_right hd
  have h2 : p.x = 0 := by rcases Ed.mul_eq_zero h1 with h | h <;> exact h
  exact Ed.Pt.ext h2 h
theorem mont_eq (p : Pt) : (1 + p.y) * inv (1 - p.y) * (1 - p.y) = if p = 0 then 0 else 1 + p.y := by
  split
  · rename_i h
    have : (1 : F) - p.y = 0 := by rw [h]; decide
    rw [this, Ed.inv_zero]
    have e : ∀ a : F, a * 0 * 0 = 0 := fun a => by grind
    exact e _
  · rename_i h
    have hne : (1 : F) - p.y ≠ 0 := by
      intro e
      apply h
      apply y_one
      have : ∀ y : F, 1 - y = 0 → y = 1 := fun y hy => by grind
      exact this _ e
    have := Ed.mul_inv hne
    generalize inv (1 - p.y) = i at *
    generalize (1 : F) - p.y = t at *
    generalize (1 : F) + p.y = s at *
    grind
end Go.Sx

/-
  Why a point is not read; bytes with the highest bit struck.
-/
namespace Go.Sx
open Ed (F P inv pw Pt)

theorem readP_error {n m : Nat} (h : Ed.readP true n = .error m) : m = 5 ∧ ∀ hP : n % 2 ^ 255 < P, Ed.isSq (Ed.uv ⟨n % 2 ^ 255, hP⟩) = true → n / 2 ^ 255 % 2 = 1 ∧ Ed.root (Ed.uv ⟨n % 2 ^ 255, hP⟩) = 0 := by
  unfold Ed.readP at h
  rw [if_pos rfl] at h
  split at h
  · rename_i hP
    simp only [] at h
    split at h
    · rename_i hs
      split at h
      · rename_i hb
        split at h
        · rename_i hz
          have hm := Except.error.inj h
          exact ⟨hm.symm, fun _ _ => ⟨hb, hz⟩⟩
        · cases h
      · cases h
    · rename_i hs
      have hm := Except.error.inj h
      exact ⟨hm.symm, fun _ h => absurd h hs⟩
  · rename_i hP
    have hm := Except.error.inj h
    exact ⟨hm.symm, fun h _ => absurd h hP⟩
theorem le_top {u : List Nat} {t : Nat} (hu : isB u) (hl : u.length = 31) (ht : t < 256) : le (u ++ [t % 128]) = le (u ++ [t]) % 2 ^ 255 ∧ (127 < t ↔ le (u ++ [t]) / 2 ^ 255 % 2 = 1) := by
  have h := le_lt u hu
  rw [hl] at h
  rw [le_append, le_append, hl]
  simp only [le, Nat.mul_zero, Nat.add_zero]
  have p31 : (256 : Nat) ^ 31 = 452312848583266388373324160190187140051835877600158453279131187530910662656 := by decide
  rw [p255, p31] at *
  constructor
  · omega
  · omega
theorem uv_law (n : F) : prodF [prodF [n, n] - 1, inv (sumF [prodF [ofN (Ed.d).val, n, n], 1])] = Ed.uv n := by
  simp only [prod2, prod3, sum2, ofN_val]
  unfold Ed.uv
  have e : ∀ d n : F, d * n * n = d * (n * n) := fun d n => by grind
  rw [e]
/-- what a signature's public bytes lead to -/
def signP (k : Bool) (n : Nat) : Except Nat Pt := match Ed.readP k n with
  | .ok p => if Ed.smul 8 p = 0 then .error 5 else .ok p
  | .error m => .error m
def errN {α : Type} (o : Except Nat α) : Nat := match o with
  | .ok _ => 0
  | .error m => m
theorem readP_len {k n : Nat} {m : Nat} (h : Ed.readP (decide (k = 32)) n = .error m) : m = 3 ∨ m = 5 := readP_err h
end Go.Sx

/-
  Bits struck.
-/
namespace Go.Sx
open Ed (F P inv pw Pt)

section
variable {Pr : Program} {G : Glb} {T : Nat} {a b : AV} {v : Nat} {cs : List Cmd} {n : Nat} {l : List Value} {K : List Value → Prop}
theorem vc_binr {op : BinOp} {x y r : Value} (h1 : ∀ z, a.den (lr (v + 1) (z :: l)) = x) (h2 : ∀ z, b.den (lr (v + 1) (z :: l)) = y) (hne : x ≠ .nilIface) (hr : ∀ w, (do eqGuard op T (.tmp 0) (.tmp 0) x y; binOp op T x y).run Pr w = .ok r w) (hv : v = n)
    (hk : VR Pr G cs (v + 1) (r :: l) K) : VR Pr G (.bin op T a b v :: cs) n l K := by
  simp only [VR, Cmd.tgt]
  refine ⟨r, hv, ⟨by rw [h1]; exact hne, fun w => ?_⟩, hk⟩
  rw [h1, h2, hr w]; simp [lr]
theorem vc_andn64 {x y : Nat} (h1 : ∀ z, a.den (lr (v + 1) (z :: l)) = U x) (h2 : ∀ z, b.den (lr (v + 1) (z :: l)) = U y) (hx : x < 18446744073709551616) (hy : y < 18446744073709551616) (hv : v = n)
    (hk : VR Pr G cs (v + 1) (U (x &&& (18446744073709551615 - y)) :: l) K) : VR Pr G (.bin .andNot T a b v :: cs) n l K := by
  refine vc_binr h1 h2 (by simp [U]) (fun w => ?_) hv hk
  have hg : (eqGuard .andNot T (.tmp 0) (.tmp 0) (U x) (U y)).run Pr w = .ok () w := rfl
  rw [Sem.run_bind, hg]
  have e : (BitVec.ofInt 64 (x : Int) &&& ~~~(BitVec.ofInt 64 (y : Int))).toNat = x &&& (18446744073709551615 - y) := by
    simp only [BitVec.ofInt_natCast, BitVec.toNat_and, BitVec.toNat_not, BitVec.toNat_ofNat]
    rw [Nat.mod_eq_of_lt hx, Nat.mod_eq_of_lt hy]
  have hlt : x &&& (18446744073709551615 - y) < 18446744073709551616 := Nat.lt_of_le_of_lt Nat.and_le_left hx
  show (binOp .andNot T (.int .u64 x) (.int .u64 y)).run Pr w = _
  simp only [binOp, Op.intBits, ne_eq, not_true_eq_false, if_false]
  show Result.ok (Value.int .u64 (IntKind.wrap .u64 ((BitVec.ofInt 64 (x : Int) &&& ~~~(BitVec.ofInt 64 (y : Int))).toNat : Int))) w = _
  rw [e, wrap_u64, Nat.mod_eq_of_lt hlt]; rfl
end
theorem strike3 {x : Nat} (hx : x < 18446744073709551616) : x &&& (18446744073709551615 - 7) = x / 8 * 8 := by
  apply Nat.eq_of_testBit_eq
  intro i
  rw [show (18446744073709551615 - 7 : Nat) = (2 ^ 61 - 1) * 2 ^ 3 by decide, show x / 8 * 8 = x / 2 ^ 3 * 2 ^ 3 from rfl, Nat.testBit_and, Nat.testBit_mul_two_pow, Nat.testBit_mul_two_pow, Nat.testBit_two_pow_sub_one, Nat.testBit_div_two_pow]
  by_cases h3 : 3 ≤ i
  · have : i - 3 + 3 = i := by omega
    simp only [h3, decide_true, Bool.true_and, this]
    by_cases h61 : i - 3 < 61
    · simp [h61]
    · have : x.testBit i = false := Nat.testBit_lt_two_pow (Nat.lt_of_lt_of_le hx (by
        rw [show (18446744073709551616 : Nat) = 2 ^ 64 by decide]
        exact Nat.pow_le_pow_right (by decide) (by omega)))
      simp [this]
  · simp [h3]
theorem strike62 {x : Nat} : x &&& (18446744073709551615 - 13835058055282163712) = x % 4611686018427387904 := by
  rw [show (18446744073709551615 - 13835058055282163712 : Nat) = 2 ^ 62 - 1 by decide, Nat.and_two_pow_sub_one_eq_mod]
/-- a number with the bits struck and set that a scalar's are -/
def clampN (n : Nat) : Nat := n % 2 ^ 254 / 8 * 8 + 2 ^ 254
theorem clamp_words {n a b c d : Nat} (ha : a < 18446744073709551616) (hb : b < 18446744073709551616) (hc : c < 18446744073709551616)
    (h : n = a + 18446744073709551616 * (b + 18446744073709551616 * (c + 18446744073709551616 * d))) : nums [clampN n] = .agg #[U (a / 8 * 8), U b, U c, U (d % 4611686018427387904 ||| 4611686018427387904)] := by
  have e : d % 4611686018427387904 ||| 4611686018427387904 = d % 4611686018427387904 + 4611686018427387904 := by
    have := or_add (d % 4611686018427387904) 1 62 (by rw [show (2 : Nat) ^ 62 = 4611686018427387904 by decide]; omega)
    simpa using this
  rw [e]
  have p254 : (2 : Nat) ^ 254 = 28948022309329048855892746252171976963317496166410141009864396001978282409984 := by decide
  refine nums_words (by omega) hb hc (by omega) ?_
  unfold clampN
  rw [p254]
  omega
theorem signP_err {k : Bool} {n m : Nat} (h : Ed.readP k n = .error m) : signP k n = .error m := by unfold signP; rw [h]
theorem signP_small {k : Bool} {n : Nat} {p : Pt} (h : Ed.readP k n = .ok p) (h8 : Ed.smul 8 p = 0) : signP k n = .error 5 := by unfold signP; rw [h]; exact if_pos h8
theorem signP_ok {k : Bool} {n : Nat} {p : Pt} (h : Ed.readP k n = .ok p) (h8 : ¬ Ed.smul 8 p = 0) : signP k n = .ok p := by unfold signP; rw [h]; exact if_neg h8
theorem signP_inv {k : Bool} {n : Nat} {p : Pt} (h : signP k n = .ok p) : Ed.readP k n = .ok p := by
  unfold signP at h
  cases hr : Ed.readP k n with
  | error m => rw [hr] at h; cases h
  | ok q =>
    rw [hr] at h
    simp only at h
    split at h
    · cases h
    · exact h
theorem signP_ne {k : Bool} {n m : Nat} (h : signP k n = .error m) : m ≠ 0 := by
  unfold signP at h
  cases hr : Ed.readP k n with
  | error q =>
    rw [hr] at h
    have := Except.error.inj h
    have h2 := readP_err hr
    omega
  | ok q =>
    rw [hr] at h
    simp only at h
    split at h
    · have := Except.error.inj h; omega
    · cases h
end Go.Sx
