/- What the functions compute, over plain numbers; from a contract to a row. -/
import Derived.Test.YtpeafegfjhljmaaVD
import Derived.Test.YtpeafegfjhljmaaVM
import Derived.Carry
import Derived.ChangeSame
import Derived.ChangeSlices
import Derived.JoinedOf
import Derived.JoinedAt
import Derived.JoinedStill
/-
  What the functions on numbers and points compute, said over plain numbers.
-/
namespace Go.Sx
open Ed (F P inv pw Pt)

def fn (l : List F) : Value := nums (l.map Fin.val)
def ofN (n : Nat) : F := Fin.ofNat P n
theorem ofN_val (a : F) : ofN a.val = a := Fin.ext (Nat.mod_eq_of_lt a.isLt)
theorem val_ofN (n : Nat) : (ofN n).val = n % P := rfl
theorem F_lt (a : F) : a.val < 2 ^ 256 := Nat.lt_trans a.isLt (by decide)
def bts (l : List Nat) : Value := .agg (l.map (IK .u8)).toArray
def Lo : Nat := 7237005577332262213973186563042994240857116359379907606001950938285454250989
/-- bytes, the lowest first -/
def le : List Nat → Nat
  | [] => 0
  | b :: l => b + 256 * le l
def bytesOf : Nat → Nat → List Nat
  | 0, _ => []
  | k + 1, n => n % 256 :: bytesOf k (n / 256)
def isB (l : List Nat) : Prop := ∀ b ∈ l, b < 256

def Φ0 (v : Value) (ds : List Value) (r : Value) : Prop := ds = [] ∧ r = v
def Φplus (ds : List Value) (r : Value) : Prop := ∃ x y, x < 115792089237316195423570985008687907853269984665640564039457584007913129639936 ∧ y < 115792089237316195423570985008687907853269984665640564039457584007913129639936 ∧ ds = [nums [x], nums [y]] ∧ r = .tuple #[nums [(x + y) % 115792089237316195423570985008687907853269984665640564039457584007913129639936], U ((x + y) / 115792089237316195423570985008687907853269984665640564039457584007913129639936)]
def Φminus (ds : List Value) (r : Value) : Prop := ∃ x y, x < 115792089237316195423570985008687907853269984665640564039457584007913129639936 ∧ y < 115792089237316195423570985008687907853269984665640564039457584007913129639936 ∧ ds = [nums [x], nums [y]] ∧ r = .tuple #[nums [(x + 115792089237316195423570985008687907853269984665640564039457584007913129639936 - y) % 115792089237316195423570985008687907853269984665640564039457584007913129639936], U (if x < y then 1 else 0)]
def Φless (ds : List Value) (r : Value) : Prop := ∃ x y, x < 115792089237316195423570985008687907853269984665640564039457584007913129639936 ∧ y < 115792089237316195423570985008687907853269984665640564039457584007913129639936 ∧ ds = [nums [x], nums [y]] ∧ r = Bo (decide (x < y))
def Φsmall (ds : List Value) (r : Value) : Prop := ∃ x, x < 115792089237316195423570985008687907853269984665640564039457584007913129639936 ∧ ds = [nums [x]] ∧ r = fn [ofN x]
def Φadd (ds : List Value) (r : Value) : Prop := ∃ x y : F, ds = [fn [x], fn [y]] ∧ r = fn [x + y]
def Φtimes (ds : List Value) (r : Value) : Prop := ∃ x w, x < 115792089237316195423570985008687907853269984665640564039457584007913129639936 ∧ w < 18446744073709551616 ∧ ds = [nums [x], U w] ∧ r = .tuple #[nums [x * w % 115792089237316195423570985008687907853269984665640564039457584007913129639936], U (x * w / 115792089237316195423570985008687907853269984665640564039457584007913129639936)]
def Φmul64 (ds : List Value) (r : Value) : Prop := ∃ x y, x < 18446744073709551616 ∧ y < 18446744073709551616 ∧ ds = [U x, U y] ∧ r = .tuple #[U (x * y / 18446744073709551616), U (x * y % 18446744073709551616)]
def Φproduct (ds : List Value) (r : Value) : Prop := ∃ x y, x < 115792089237316195423570985008687907853269984665640564039457584007913129639936 ∧ y < 115792089237316195423570985008687907853269984665640564039457584007913129639936 ∧ ds = [nums [x], nums [y]] ∧ r = nums [x * y % 115792089237316195423570985008687907853269984665640564039457584007913129639936, x * y / 115792089237316195423570985008687907853269984665640564039457584007913129639936]
def Φfolded (ds : List Value) (r : Value) : Prop := ∃ x y, x < 115792089237316195423570985008687907853269984665640564039457584007913129639936 ∧ y < 115792089237316195423570985008687907853269984665640564039457584007913129639936 ∧ ds = [nums [x, y]] ∧ r = fn [ofN (x + 115792089237316195423570985008687907853269984665640564039457584007913129639936 * y)]
def Φmul (ds : List Value) (r : Value) : Prop := ∃ x y, x < 115792089237316195423570985008687907853269984665640564039457584007913129639936 ∧ y < 115792089237316195423570985008687907853269984665640564039457584007913129639936 ∧ ds = [nums [x], nums [y]] ∧ r = fn [ofN x * ofN y]
def ΦmulF (ds : List Value) (r : Value) : Prop := ∃ x y : F, ds = [fn [x], fn [y]] ∧ r = fn [x * y]
def prodF (l : List F) : F := l.foldl (fun a x => a * x) 1
def sumF (l : List F) : F := l.foldl (fun a x => a + x) 0
def ΦMul (ds : List Value) (r : Value) : Prop := ∃ l : List Nat, (∀ x ∈ l, x < 115792089237316195423570985008687907853269984665640564039457584007913129639936) ∧ l.length ≤ 1000 ∧ ds = [nums l] ∧ r = fn [prodF (l.map ofN)]
def ΦMulF (ds : List Value) (r : Value) : Prop := ∃ l : List F, l.length ≤ 1000 ∧ ds = [fn l] ∧ r = fn [prodF l]
def ΦAdd (ds : List Value) (r : Value) : Prop := ∃ l : List Nat, (∀ x ∈ l, x < 115792089237316195423570985008687907853269984665640564039457584007913129639936) ∧ l.length ≤ 1000 ∧ ds = [nums l] ∧ r = fn [sumF (l.map ofN)]
def ΦAddF (ds : List Value) (r : Value) : Prop := ∃ l : List F, l.length ≤ 1000 ∧ ds = [fn l] ∧ r = fn [sumF l]
def ΦSub (ds : List Value) (r : Value) : Prop := ∃ x y, x < 115792089237316195423570985008687907853269984665640564039457584007913129639936 ∧ y < 115792089237316195423570985008687907853269984665640564039457584007913129639936 ∧ ds = [nums [x], nums [y]] ∧ r = fn [ofN x - ofN y]
def ΦSubF (ds : List Value) (r : Value) : Prop := ∃ x y : F, ds = [fn [x], fn [y]] ∧ r = fn [x - y]
def Φbit (ds : List Value) (r : Value) : Prop := ∃ x i, x < 115792089237316195423570985008687907853269984665640564039457584007913129639936 ∧ i < 256 ∧ ds = [nums [x], I i] ∧ r = U (x / 2 ^ i % 2)
def ΦPower (ds : List Value) (r : Value) : Prop := ∃ x n, x < 115792089237316195423570985008687907853269984665640564039457584007913129639936 ∧ n < 115792089237316195423570985008687907853269984665640564039457584007913129639936 ∧ ds = [nums [x], nums [n]] ∧ r = fn [pw (ofN x) n]
def ΦInv (ds : List Value) (r : Value) : Prop := ∃ x, x < 115792089237316195423570985008687907853269984665640564039457584007913129639936 ∧ ds = [nums [x]] ∧ r = fn [inv (ofN x)]
def ΦInvF (ds : List Value) (r : Value) : Prop := ∃ x : F, ds = [fn [x]] ∧ r = fn [inv x]
def ΦRoot (ds : List Value) (r : Value) : Prop := ∃ x, x < 115792089237316195423570985008687907853269984665640564039457584007913129639936 ∧ ds = [nums [x]] ∧ r = .tuple #[fn [Ed.root (ofN x)], Bo (Ed.isSq (ofN x))]
def ΦRootF (ds : List Value) (r : Value) : Prop := ∃ x : F, ds = [fn [x]] ∧ r = .tuple #[fn [Ed.root x], Bo (Ed.isSq x)]
def ΦZero (ds : List Value) (r : Value) : Prop := ∃ x, x < 115792089237316195423570985008687907853269984665640564039457584007913129639936 ∧ ds = [nums [x]] ∧ r = Bo (decide (x = 0))
def ΦOf (ds : List Value) (r : Value) : Prop := ∃ l, isB l ∧ l.length < 2 ^ 60 ∧ ds = [bts l] ∧ r = if l.length = 32 then .tuple #[nums [le l], I 0] else .tuple #[nums [0], I 3]
def ΦBytes (ds : List Value) (r : Value) : Prop := ∃ x, x < 115792089237316195423570985008687907853269984665640564039457584007913129639936 ∧ ds = [nums [x]] ∧ r = bts (bytesOf 32 x)
def Φdouble (ds : List Value) (r : Value) : Prop := ∃ x o, x < Lo ∧ o < 2 ∧ ds = [nums [x], U o] ∧ r = nums [(2 * x + o) % Lo]
def ΦScalar (ds : List Value) (r : Value) : Prop := ∃ l, isB l ∧ l.length < 2 ^ 60 ∧ ds = [bts l] ∧ r = if 1 ≤ l.length ∧ l.length ≤ 64 then .tuple #[nums [le l % Lo], I 0] else .tuple #[nums [0], I 3]
def ΦSMul (ds : List Value) (r : Value) : Prop := ∃ x y, x < 115792089237316195423570985008687907853269984665640564039457584007913129639936 ∧ y < 115792089237316195423570985008687907853269984665640564039457584007913129639936 ∧ ds = [nums [x], nums [y]] ∧ r = nums [x * y % Lo]
def ΦSAdd (ds : List Value) (r : Value) : Prop := ∃ x y, x < 115792089237316195423570985008687907853269984665640564039457584007913129639936 ∧ y < 115792089237316195423570985008687907853269984665640564039457584007913129639936 ∧ ds = [nums [x], nums [y]] ∧ r = nums [(x + y) % Lo]

/-! points -/
def PV (p : Pt) : Value := fn [p.x, p.y]
def pts (l : List Pt) : Value := fn (l.flatMap fun p => [p.x, p.y])
def farL (p : Pt) : List F := [p.x, p.y, 1, prodF [p.x, p.y]]
def Φother (ds : List Value) (r : Value) : Prop := ∃ y : F, ds = [fn [y]] ∧ r = .tuple #[fn [Ed.root (Ed.uv y)], Bo (Ed.isSq (Ed.uv y))]
instance (x y : F) : Decidable (Ed.On x y) := inferInstanceAs (Decidable (y * y - x * x = 1 + Ed.d * x * x * y * y))
def Φgood (ds : List Value) (r : Value) : Prop := ∃ x y, x < 115792089237316195423570985008687907853269984665640564039457584007913129639936 ∧ y < 115792089237316195423570985008687907853269984665640564039457584007913129639936 ∧ ds = [nums [x, y]] ∧ r = Bo (decide (x < P ∧ y < P ∧ Ed.On (ofN x) (ofN y)))
def Φfar (ds : List Value) (r : Value) : Prop := ∃ p : Pt, ds = [PV p] ∧ r = fn [p.x, p.y, 1, p.x * p.y]
def Φnear (ds : List Value) (r : Value) : Prop := ∃ (p : Pt) (x y z t : F), Ed.Rep p x y z t ∧ ds = [fn [x, y, z, t]] ∧ r = PV p
def ΦaddP (ds : List Value) (r : Value) : Prop := ∃ x1 y1 z1 t1 x2 y2 z2 t2 : F, ds = [fn [Ed.d + Ed.d], fn [x1, y1, z1, t1], fn [x2, y2, z2, t2]] ∧ r = fn (Ed.padd x1 y1 z1 t1 x2 y2 z2 t2)
def ΦaddPts (ds : List Value) (r : Value) : Prop := ∃ l : List Pt, l.length ≤ 1000 ∧ ds = [pts l] ∧ r = PV (Ed.sumP l)
def ΦtimesP (ds : List Value) (r : Value) : Prop := ∃ (p : Pt) (n : Nat), n < 115792089237316195423570985008687907853269984665640564039457584007913129639936 ∧ ds = [PV p, nums [n]] ∧ r = PV (Ed.smul n p)
def ΦminusP (ds : List Value) (r : Value) : Prop := ∃ p : Pt, ds = [PV p] ∧ r = PV (-p)
def ΦbytesP (ds : List Value) (r : Value) : Prop := ∃ p : Pt, ds = [PV p] ∧ r = bts (bytesOf 32 (p.y.val + 2 ^ 255 * (p.x.val % 2)))
def ΦsmallP (ds : List Value) (r : Value) : Prop := ∃ p : Pt, ds = [PV p] ∧ r = Bo (decide (Ed.smul 8 p = 0))
def Φmont (ds : List Value) (r : Value) : Prop := ∃ p : Pt, ds = [PV p] ∧ r = fn [(1 + p.y) * inv (1 - p.y)]
def ΦRead (ds : List Value) (r : Value) : Prop := ∃ l, isB l ∧ l.length < 2 ^ 60 ∧ ds = [bts l] ∧ r = match Ed.readP (l.length = 32) (le l) with | .ok p => .tuple #[PV p, I 0] | .error n => .tuple #[nums [0, 0], I n]
end Go.Sx

/-
  Numbers and residues: small laws.
-/
namespace Go.Sx
open Ed (F P inv pw Pt)
theorem ofN_add (x y : Nat) : ofN (x + y) = ofN x + ofN y := Fin.ext (by show (x + y) % P = (x % P + y % P) % P; rw [← Nat.add_mod])
theorem ofN_mul (x y : Nat) : ofN (x * y) = ofN x * ofN y := Fin.ext (by show x * y % P = x % P * (y % P) % P; rw [← Nat.mul_mod])
theorem ofN_mod (x : Nat) : ofN (x % P) = ofN x := Fin.ext (Nat.mod_mod x P)
theorem ofN_sub {x y : Nat} (h : y ≤ x) : ofN (x - y) = ofN x - ofN y := by
  have e : ofN (x - y) + ofN y = ofN x := by rw [← ofN_add, Nat.sub_add_cancel h]
  rw [← e]; grind
theorem ofN_P : ofN P = 0 := Fin.ext (Nat.mod_self P)
theorem ofN_eq {x y : Nat} (h : x % P = y % P) : ofN x = ofN y := Fin.ext h
theorem ofN_W : ofN 115792089237316195423570985008687907853269984665640564039457584007913129639936 = 38 := by decide
theorem flat_drop (l : List Nat) (i : Nat) (h : i < l.length) : ((l.flatMap (wds 4)).drop (i * 4)).take 4 = wds 4 l[i] := by
  induction l generalizing i with
  | nil => simp at h
  | cons x l ih =>
    cases i with
    | zero =>
      show ((wds 4 x ++ l.flatMap (wds 4)).drop (0 * 4)).take 4 = wds 4 x
      rfl
    | succ i =>
      have e := ih i (by simpa using h)
      show ((wds 4 x ++ l.flatMap (wds 4)).drop ((i + 1) * 4)).take 4 = _
      rw [show (i + 1) * 4 = 4 + i * 4 by omega, ← List.drop_drop, show (wds 4 x ++ l.flatMap (wds 4)).drop 4 = l.flatMap (wds 4) from rfl, e]
      rfl
theorem nums_size (l : List Nat) : (l.flatMap (wds 4)).toArray.size = l.length * 4 := by
  induction l with
  | nil => rfl
  | cons x l ih =>
    simp only [List.size_toArray, List.flatMap_cons, List.length_append, List.length_cons] at ih ⊢
    have : (wds 4 x).length = 4 := rfl
    omega

section
variable {P : Program} {G : Glb} {T : Nat} {a b : AV} {v : Nat} {cs : List Cmd} {n : Nat} {l : List Value} {K : List Value → Prop}
theorem vc_getxaN {r : RC} {m : Nat} {k : IntKind} {i : Nat} {xs : List Nat} (hi : i < xs.length) (h1 : ∀ z, r.cden (lr (v + 1) (z :: l)) = xs.flatMap (wds 4)) (h3 : ∀ z, lr (v + 1) (z :: l) m = .int k (i : Int)) (hv : v = n)
    (hk : VR P G cs (v + 1) (nums [xs[i]] :: l) K) : VR P G (.getxa r m 4 4 v :: cs) n l K := by
  refine vc_getxa (i := i) h1 h3 (by have := nums_size xs; simp only [List.size_toArray] at this; omega) hv ?_
  rw [flat_drop xs i hi]; exact hk
end
theorem take_succ_map (l : List Nat) (i : Nat) (h : i < l.length) : (l.take (i + 1)).map ofN = (l.take i).map ofN ++ [ofN l[i]] := by
  have e : l.take (i + 1) = l.take i ++ [l[i]] := by rw [List.take_add_one, List.getElem?_eq_getElem h]; rfl
  rw [e, List.map_append]; rfl
theorem prodF_snoc (l : List F) (x : F) : prodF (l ++ [x]) = prodF l * x := by simp [prodF]
theorem sumF_snoc (l : List F) (x : F) : sumF (l ++ [x]) = sumF l + x := by simp [sumF]
theorem word_get (x j : Nat) (h : j < 4) : (wds 4 x)[j]? = some (U (x / 2 ^ (64 * j) % 18446744073709551616)) := by
  match j, h with
  | 0, _ => simp [wds]
  | 1, _ => simp [wds]
  | 2, _ => simp [wds, Nat.div_div_eq_div_mul]
  | 3, _ => simp [wds, Nat.div_div_eq_div_mul]
theorem bit_word (x i : Nat) : x / 2 ^ (64 * (i / 64)) % 18446744073709551616 / 2 ^ (i % 64) % 2 = x / 2 ^ i % 2 := by
  have hr : i % 64 < 64 := Nat.mod_lt _ (by decide)
  have p : (18446744073709551616 : Nat) = 2 ^ (i % 64) * 2 ^ (64 - i % 64) := by
    rw [← Nat.pow_add, show i % 64 + (64 - i % 64) = 64 by omega]
  rw [p, Nat.mod_mul_right_div_self, Nat.div_div_eq_div_mul, ← Nat.pow_add, show 64 * (i / 64) + i % 64 = i by omega]
  exact Nat.mod_mod_of_dvd _ (by
    obtain ⟨k, hk⟩ : ∃ k, 64 - i % 64 = k + 1 := ⟨63 - i % 64, by omega⟩
    rw [hk, Nat.pow_succ]; exact Nat.dvd_mul_left 2 _)
theorem pw_bit (a : F) (e j : Nat) (acc : F) (h : acc = pw a (e / 2 ^ (j + 1))) : (e / 2 ^ j % 2 = 1 → acc * acc * a = pw a (e / 2 ^ j)) ∧ (e / 2 ^ j % 2 ≠ 1 → acc * acc = pw a (e / 2 ^ j)) := by
  have e1 : e / 2 ^ (j + 1) = e / 2 ^ j / 2 := by rw [Nat.pow_succ, Nat.div_div_eq_div_mul]
  rw [e1] at h
  generalize e / 2 ^ j = q at *
  subst h
  rw [← Ed.pw_add]
  constructor
  · intro h1
    show pw a (q / 2 + q / 2 + 1) = pw a q
    congr 1; omega
  · intro h1
    congr 1; omega
theorem root0_yes {a c : F} (hc : c = pw a ((P + 3) / 8)) (h : c * c = a) : Ed.root0 a = c := by
  unfold Ed.root0; simp only []; rw [← hc, if_pos h]
theorem root0_no {a c i : F} (hc : c = pw a ((P + 3) / 8)) (hi : i = Ed.im) (h : c * c ≠ a) : Ed.root0 a = c * i := by
  unfold Ed.root0; simp only []; rw [← hc, if_neg h, hi]
theorem root_odd {a o : F} (h : Ed.root0 a = o) (ho : o * o = a) (hp : o.val % 2 = 1) : Ed.root a = 0 - o ∧ Ed.isSq a = true := by
  unfold Ed.root Ed.isSq
  rw [h]
  refine ⟨?_, decide_eq_true ho⟩
  rw [if_pos ho]
  have : Ed.isOdd o = true := by unfold Ed.isOdd; rw [hp]; rfl
  rw [if_pos this]
theorem root_even {a o : F} (h : Ed.root0 a = o) (ho : o * o = a) (hp : ¬ o.val % 2 = 1) : Ed.root a = o ∧ Ed.isSq a = true := by
  unfold Ed.root Ed.isSq
  rw [h]
  refine ⟨?_, decide_eq_true ho⟩
  rw [if_pos ho]
  have : ¬ Ed.isOdd o = true := by unfold Ed.isOdd; simpa using hp
  rw [if_neg this]
theorem root_none {a o : F} (h : Ed.root0 a = o) (ho : o * o ≠ a) : Ed.root a = 0 ∧ Ed.isSq a = false := by
  unfold Ed.root Ed.isSq
  rw [h]
  exact ⟨if_neg ho, decide_eq_false ho⟩
theorem val_inj1 {a b : F} : ([a.val] = [b.val]) ↔ a = b := by simp [Fin.ext_iff]
theorem low_bit (n : Nat) : n % 18446744073709551616 &&& 1 = n % 2 := by
  rw [Nat.and_one_is_mod]; omega
theorem prod2 (a b : F) : prodF [a, b] = a * b := by show 1 * a * b = a * b; grind
theorem prod3 (a b c : F) : prodF [a, b, c] = a * b * c := by show 1 * a * b * c = a * b * c; grind
theorem sum2 (a b : F) : sumF [a, b] = a + b := by show 0 + a + b = a + b; grind
theorem factor_eq : (0 - 121665 : F) * inv 121666 = Ed.d := by
  rw [Ed.d_div, show (0 - 121665 : F) = -121665 by decide]
theorem base_y : (4 : F) * inv 5 = Ed.By := by
  rw [Ed.By_eq, show (1 : F) * 4 = 4 by decide]
theorem uv_eq (y : F) : (y * y - 1) * inv (Ed.d * (y * y) + 1) = Ed.uv y := rfl
theorem zero_sub' (a : F) : 0 - a = -a := by grind
theorem val_inj2 {a b c d : F} : ([a.val, b.val] = [c.val, d.val]) ↔ a = c ∧ b = d := by simp [Fin.ext_iff]
theorem PV_dec (p q : Pt) : decide ([p.x.val, p.y.val] = [q.x.val, q.y.val]) = decide (p = q) := by
  rw [decide_eq_decide, val_inj2]
  exact ⟨fun h => Ed.Pt.ext h.1 h.2, fun h => by rw [h]; exact ⟨rfl, rfl⟩⟩
theorem flat_drop8 (l : List Pt) (i : Nat) (h : i < l.length) : ((((l.flatMap fun p => [p.x, p.y]).map Fin.val).flatMap (wds 4)).drop (i * 8)).take 8 = wds 4 l[i].x.val ++ wds 4 l[i].y.val := by
  induction l generalizing i with
  | nil => simp at h
  | cons p l ih =>
    cases i with
    | zero => rfl
    | succ i =>
      have e := ih i (by simpa using h)
      show ((wds 4 p.x.val ++ (wds 4 p.y.val ++ ((l.flatMap fun p => [p.x, p.y]).map Fin.val).flatMap (wds 4))).drop ((i + 1) * 8)).take 8 = _
      rw [show (i + 1) * 8 = 8 + i * 8 by omega, ← List.drop_drop, show (wds 4 p.x.val ++ (wds 4 p.y.val ++ ((l.flatMap fun p => [p.x, p.y]).map Fin.val).flatMap (wds 4))).drop 8 = ((l.flatMap fun p => [p.x, p.y]).map Fin.val).flatMap (wds 4) from rfl, e]
      rfl
theorem pts_size (l : List Pt) : ((((l.flatMap fun p => [p.x, p.y]).map Fin.val).flatMap (wds 4)).toArray).size = l.length * 8 := by
  rw [nums_size, List.length_map]
  have : (l.flatMap fun p => [p.x, p.y]).length = l.length * 2 := by
    induction l with
    | nil => rfl
    | cons p l ih => simp only [List.flatMap_cons, List.length_append, List.length_cons, List.length_nil, ih]; omega
  rw [this]; omega
section
variable {P : Program} {G : Glb} {T : Nat} {a b : AV} {v : Nat} {cs : List Cmd} {n : Nat} {l : List Value} {K : List Value → Prop}
theorem vc_getxaP {r : RC} {m : Nat} {k : IntKind} {i : Nat} {xs : List Pt} (hi : i < xs.length) (h1 : ∀ z, r.cden (lr (v + 1) (z :: l)) = (((xs.flatMap fun p => [p.x, p.y]).map Fin.val).flatMap (wds 4))) (h3 : ∀ z, lr (v + 1) (z :: l) m = .int k (i : Int)) (hv : v = n)
    (hk : VR P G cs (v + 1) (PV xs[i] :: l) K) : VR P G (.getxa r m 8 8 v :: cs) n l K := by
  refine vc_getxa (i := i) h1 h3 (by have := pts_size xs; simp only [List.size_toArray] at this; omega) hv ?_
  rw [flat_drop8 xs i hi]; exact hk
end
theorem sumP_take (l : List Pt) (i : Nat) (h : i < l.length) : Ed.sumP (l.take (i + 1)) = Ed.sumP (l.take i) + l[i] := by
  have e : l.take (i + 1) = l.take i ++ [l[i]] := by rw [List.take_add_one, List.getElem?_eq_getElem h]; rfl
  rw [e]; unfold Ed.sumP; rw [List.foldl_append]; rfl
theorem smul_bit (p : Pt) (e j : Nat) : (e / 2 ^ j % 2 = 1 → Ed.smul (e / 2 ^ (j + 1)) p + Ed.smul (e / 2 ^ (j + 1)) p + p = Ed.smul (e / 2 ^ j) p) ∧ (e / 2 ^ j % 2 ≠ 1 → Ed.smul (e / 2 ^ (j + 1)) p + Ed.smul (e / 2 ^ (j + 1)) p = Ed.smul (e / 2 ^ j) p) := by
  have e1 : e / 2 ^ (j + 1) = e / 2 ^ j / 2 := by rw [Nat.pow_succ, Nat.div_div_eq_div_mul]
  rw [e1]
  generalize e / 2 ^ j = q at *
  rw [← Ed.smul_add]
  constructor
  · intro h1
    show Ed.smul (q / 2 + q / 2 + 1) p = Ed.smul q p
    congr 1; omega
  · intro h1
    congr 1; omega
end Go.Sx

/-
  Bytes and numbers.
-/
namespace Go.Sx
open Ed (F P inv pw Pt)

theorem le_lt : ∀ (l : List Nat), isB l → le l < 256 ^ l.length
  | [], _ => by show 0 < 1; decide
  | b :: l, h => by
    have := le_lt l fun x hx => h x (List.mem_cons_of_mem _ hx)
    have hb := h b (by simp)
    simp only [le, List.length_cons, Nat.pow_succ]
    omega
theorem le_append : ∀ (l m : List Nat), le (l ++ m) = le l + 256 ^ l.length * le m
  | [], m => by simp [le]
  | b :: l, m => by
    simp only [List.cons_append, le, le_append l m, List.length_cons, Nat.pow_succ, Nat.mul_add, ← Nat.mul_assoc]
    rw [Nat.mul_comm 256 (256 ^ l.length)]; omega
theorem le_take (l : List Nat) (i : Nat) (h : i < l.length) : le (l.take (i + 1)) = le (l.take i) + l[i] * 256 ^ i := by
  have e : l.take (i + 1) = l.take i ++ [l[i]] := by rw [List.take_add_one, List.getElem?_eq_getElem h]; rfl
  rw [e, le_append, List.length_take, Nat.min_eq_left (Nat.le_of_lt h)]
  simp only [le, Nat.mul_zero, Nat.add_zero]
  rw [Nat.mul_comm]
theorem isB_take {l : List Nat} (h : isB l) (i : Nat) : isB (l.take i) := fun b hb => h b (List.mem_of_mem_take hb)
theorem isB_drop {l : List Nat} (h : isB l) (i : Nat) : isB (l.drop i) := fun b hb => h b (List.mem_of_mem_drop hb)
theorem le_take_lt {l : List Nat} (h : isB l) (i : Nat) (hi : i ≤ l.length) : le (l.take i) < 256 ^ i := by
  have := le_lt (l.take i) (isB_take h i)
  rwa [List.length_take, Nat.min_eq_left hi] at this
theorem bytesOf_len : ∀ (k n : Nat), (bytesOf k n).length = k
  | 0, _ => rfl
  | k + 1, n => by simp only [bytesOf, List.length_cons, bytesOf_len k]
theorem bytesOf_isB : ∀ (k n : Nat), isB (bytesOf k n)
  | 0, _ => fun b hb => by cases hb
  | k + 1, n => fun b hb => by
    simp only [bytesOf] at hb
    rcases List.mem_cons.1 hb with rfl | hb
    · exact Nat.mod_lt _ (by decide)
    · exact bytesOf_isB k _ b hb
theorem le_bytesOf : ∀ (k n : Nat), le (bytesOf k n) = n % 256 ^ k
  | 0, n => by simp [le, bytesOf, Nat.mod_one]
  | k + 1, n => by
    simp only [le, bytesOf, le_bytesOf k]
    rw [Nat.pow_succ, Nat.mul_comm (256 ^ k) 256, Nat.mod_mul]
theorem bytesOf_le : ∀ (l : List Nat), isB l → bytesOf l.length (le l) = l
  | [], _ => rfl
  | b :: l, h => by
    have hb := h b (by simp)
    simp only [List.length_cons, bytesOf, le]
    rw [show (b + 256 * le l) % 256 = b by omega, show (b + 256 * le l) / 256 = le l by omega, bytesOf_le l fun x hx => h x (List.mem_cons_of_mem _ hx)]
theorem bytesOf_get : ∀ (k n i : Nat), i < k → (bytesOf k n)[i]? = some (n / 256 ^ i % 256)
  | 0, _, _, h => by omega
  | k + 1, n, 0, _ => by simp [bytesOf]
  | k + 1, n, i + 1, h => by
    simp only [bytesOf, List.getElem?_cons_succ]
    rw [bytesOf_get k (n / 256) i (by omega), Nat.pow_succ, Nat.mul_comm (256 ^ i) 256, Nat.div_div_eq_div_mul]
theorem bytesOf32 (x : Nat) : bytesOf 32 x = [x % 256, x / 256 % 256, x / 65536 % 256, x / 16777216 % 256, x / 4294967296 % 256, x / 1099511627776 % 256, x / 281474976710656 % 256, x / 72057594037927936 % 256, x / 18446744073709551616 % 256, x / 4722366482869645213696 % 256, x / 1208925819614629174706176 % 256, x / 309485009821345068724781056 % 256, x / 79228162514264337593543950336 % 256, x / 20282409603651670423947251286016 % 256, x / 5192296858534827628530496329220096 % 256, x / 1329227995784915872903807060280344576 % 256, x / 340282366920938463463374607431768211456 % 256, x / 87112285931760246646623899502532662132736 % 256, x / 22300745198530623141535718272648361505980416 % 256, x / 5708990770823839524233143877797980545530986496 % 256, x / 1461501637330902918203684832716283019655932542976 % 256, x / 374144419156711147060143317175368453031918731001856 % 256, x / 95780971304118053647396689196894323976171195136475136 % 256, x / 24519928653854221733733552434404946937899825954937634816 % 256, x / 6277101735386680763835789423207666416102355444464034512896 % 256, x / 1606938044258990275541962092341162602522202993782792835301376 % 256, x / 411376139330301510538742295639337626245683966408394965837152256 % 256, x / 105312291668557186697918027683670432318895095400549111254310977536 % 256, x / 26959946667150639794667015087019630673637144422540572481103610249216 % 256, x / 6901746346790563787434755862277025452451108972170386555162524223799296 % 256, x / 1766847064778384329583297500742918515827483896875618958121606201292619776 % 256, x / 452312848583266388373324160190187140051835877600158453279131187530910662656 % 256] := by
  simp only [bytesOf, Nat.div_div_eq_div_mul, Nat.reduceMul]

theorem or_add (q c r : Nat) (hq : q < 2 ^ r) : q ||| c * 2 ^ r = q + c * 2 ^ r := by
  rw [Nat.mul_comm, Nat.or_comm, ← Nat.two_pow_add_eq_or_of_lt hq c]; omega
theorem set_word (v c i : Nat) (hv : v < 256 ^ i) (hc : c < 256) (hi : i < 32) :
    (wds 4 v).set (i / 8 * 1) (U (v / 2 ^ (64 * (i / 8)) % 18446744073709551616 ||| c * 2 ^ (8 * (i % 8)) % 18446744073709551616)) = wds 4 (v + c * 256 ^ i) := by
  have hr : 8 * (i % 8) + 8 ≤ 64 := by omega
  have h256 : (256 : Nat) ^ i = 2 ^ (64 * (i / 8)) * 2 ^ (8 * (i % 8)) := by
    rw [← Nat.pow_add, show (256 : Nat) = 2 ^ 8 by decide, ← Nat.pow_mul, show 8 * i = 64 * (i / 8) + 8 * (i % 8) by omega]
  have hq : v / 2 ^ (64 * (i / 8)) < 2 ^ (8 * (i % 8)) := Nat.div_lt_of_lt_mul (by rw [← h256]; exact hv)
  have hp : (2 : Nat) ^ (8 * (i % 8)) * 256 ≤ 18446744073709551616 := by
    have : (2 : Nat) ^ (8 * (i % 8) + 8) ≤ 2 ^ 64 := Nat.pow_le_pow_right (by decide) hr
    rw [Nat.pow_add] at this
    simpa using this
  have hcb : c * 2 ^ (8 * (i % 8)) + 2 ^ (8 * (i % 8)) ≤ 18446744073709551616 := by
    have : (c + 1) * 2 ^ (8 * (i % 8)) ≤ 256 * 2 ^ (8 * (i % 8)) := Nat.mul_le_mul_right _ (by omega)
    rw [Nat.succ_mul] at this
    omega
  rw [Nat.mod_eq_of_lt (a := v / 2 ^ (64 * (i / 8))) (by omega), Nat.mod_eq_of_lt (a := c * 2 ^ (8 * (i % 8))) (by have : 0 < (2:Nat) ^ (8 * (i % 8)) := Nat.pow_pos (by decide); omega), or_add _ _ _ hq]
  rw [h256, Nat.mul_left_comm]
  have hd := Nat.div_add_mod v (2 ^ (64 * (i / 8)))
  have hm := Nat.mod_lt v (show 0 < 2 ^ (64 * (i / 8)) from Nat.pow_pos (by decide))
  generalize v / 2 ^ (64 * (i / 8)) = q at *
  generalize v % 2 ^ (64 * (i / 8)) = low at *
  generalize c * 2 ^ (8 * (i % 8)) = t at *
  generalize (2 : Nat) ^ (8 * (i % 8)) = w at *
  have hj : i / 8 = 0 ∨ i / 8 = 1 ∨ i / 8 = 2 ∨ i / 8 = 3 := by omega
  have u := fun (a b : Nat) (h : a = b) => congrArg U h
  rcases hj with hj | hj | hj | hj <;> rw [hj] at hd hm ⊢ <;> simp only [wds, Nat.one_mul, Nat.mul_one, List.set_cons_zero, List.set_cons_succ, Nat.reduceMul, Nat.reducePow] at hd hm ⊢ <;> simp only [List.cons.injEq, and_true] <;> refine ⟨u _ _ ?_, u _ _ ?_, u _ _ ?_, u _ _ ?_⟩ <;> omega

theorem bytes_top (y b : Nat) (hy : y < 2 ^ 255) (hb : b < 2) : (bytesOf 32 y).set 31 ((y / 256 ^ 31 % 256) ||| (b * 2 ^ 7 % 256)) = bytesOf 32 (y + 2 ^ 255 * b) := by
  have p31 : (256 : Nat) ^ 31 = 452312848583266388373324160190187140051835877600158453279131187530910662656 := by decide
  have p255 : (2 : Nat) ^ 255 = 57896044618658097711785492504343953926634992332820282019728792003956564819968 := by decide
  have hlt : y / 256 ^ 31 < 2 ^ 7 := by rw [p31]; rw [p255] at hy; omega
  have e1 : (y / 256 ^ 31 % 256) ||| (b * 2 ^ 7 % 256) = y / 256 ^ 31 + b * 2 ^ 7 := by
    rw [Nat.mod_eq_of_lt (a := y / 256 ^ 31) (by omega), Nat.mod_eq_of_lt (a := b * 2 ^ 7) (by omega), or_add _ _ _ hlt]
  rw [e1]
  apply List.ext_getElem?
  intro i
  by_cases hi : i < 32
  · rw [bytesOf_get 32 _ i hi, List.getElem?_set]
    by_cases h31 : 31 = i
    · subst h31
      rw [if_pos rfl, if_pos (by rw [bytesOf_len]; decide)]
      rw [p31, p255] at *
      congr 1; omega
    · rw [if_neg h31, bytesOf_get 32 _ i hi]
      have h2 : (256 : Nat) ^ i * 256 * 2 ^ (247 - 8 * i) = 2 ^ 255 := by
        rw [show (256 : Nat) = 2 ^ 8 by decide, ← Nat.pow_mul, ← Nat.pow_add, ← Nat.pow_add]; congr 1; omega
      have hpos : 0 < (256 : Nat) ^ i := Nat.pow_pos (by decide)
      rw [← h2, Nat.mul_assoc, Nat.mul_assoc, Nat.add_mul_div_left _ _ hpos, Nat.add_mul_mod_self_left]
  · rw [List.getElem?_eq_none (by rw [List.length_set, bytesOf_len]; omega), List.getElem?_eq_none (by rw [bytesOf_len]; omega)]
end Go.Sx

/-
  A point read from bytes: its ways.
-/
namespace Go.Sx
open Ed (F P inv pw Pt)

def rdV (o : Except Nat Pt) : Value := match o with
  | .ok p => .tuple #[PV p, I 0]
  | .error n => .tuple #[nums [0, 0], I n]

section
variable {k n y : Nat} {q : F}
theorem readP_short (h : ¬ k = 32) : rdV (Ed.readP (decide (k = 32)) n) = .tuple #[nums [0, 0], I 3] := by
  unfold Ed.readP; rw [if_neg (by simpa using h)]; rfl
theorem readP_big (h : k = 32) (hP : ¬ y < P) (hy : y = n % 2 ^ 255) : rdV (Ed.readP (decide (k = 32)) n) = .tuple #[nums [0, 0], I 5] := by
  subst hy
  unfold Ed.readP; rw [if_pos (by simpa using h), dif_neg hP]; rfl
theorem readP_nsq (h : k = 32) (hP : y < P) (hy : y = n % 2 ^ 255) (hq : q = ⟨y, hP⟩) (hs : ¬ Ed.isSq (Ed.uv q) = true) : rdV (Ed.readP (decide (k = 32)) n) = .tuple #[nums [0, 0], I 5] := by
  subst hy; subst hq
  unfold Ed.readP; rw [if_pos (by simpa using h), dif_pos hP]
  simp only []
  rw [dif_neg hs]; rfl
theorem readP_none (h : k = 32) (hP : y < P) (hy : y = n % 2 ^ 255) (hq : q = ⟨y, hP⟩) (hs : Ed.isSq (Ed.uv q) = true) (ho : n / 2 ^ 255 % 2 = 1) (hz : Ed.root (Ed.uv q) = 0) : rdV (Ed.readP (decide (k = 32)) n) = .tuple #[nums [0, 0], I 5] := by
  subst hy; subst hq
  unfold Ed.readP; rw [if_pos (by simpa using h), dif_pos hP]
  simp only []
  rw [dif_pos hs, if_pos ho, if_pos hz]; rfl
theorem readP_neg (h : k = 32) (hP : y < P) (hy : y = n % 2 ^ 255) (hq : q = ⟨y, hP⟩) (hs : Ed.isSq (Ed.uv q) = true) (ho : n / 2 ^ 255 % 2 = 1) (hz : ¬ Ed.root (Ed.uv q) = 0) : rdV (Ed.readP (decide (k = 32)) n) = .tuple #[PV (-(⟨Ed.root (Ed.uv q), q, Ed.on_iff.2 (Ed.root_sq hs).1⟩ : Pt)), I 0] := by
  subst hy; subst hq
  unfold Ed.readP; rw [if_pos (by simpa using h), dif_pos hP]
  simp only []
  rw [dif_pos hs, if_pos ho, if_neg hz]; rfl
theorem readP_pos (h : k = 32) (hP : y < P) (hy : y = n % 2 ^ 255) (hq : q = ⟨y, hP⟩) (hs : Ed.isSq (Ed.uv q) = true) (ho : ¬ n / 2 ^ 255 % 2 = 1) : rdV (Ed.readP (decide (k = 32)) n) = .tuple #[PV (⟨Ed.root (Ed.uv q), q, Ed.on_iff.2 (Ed.root_sq hs).1⟩ : Pt), I 0] := by
  subst hy; subst hq
  unfold Ed.readP; rw [if_pos (by simpa using h), dif_pos hP]
  simp only []
  rw [dif_pos hs, if_neg ho]; rfl
theorem readP_val {r : F} {on : Ed.On r q} {a b c d : Value} (h : fn [q] = .agg #[a, b, c, d]) : Value.agg ((wds 4 r.val).toArray ++ #[a, b, c, d]) = PV ⟨r, q, on⟩ := by
  have h1 : (wds 4 q.val ++ []).toArray = #[a, b, c, d] := Value.agg.inj h
  have h2 : wds 4 q.val = [a, b, c, d] := by
    have := congrArg Array.toList h1
    simpa using this
  show _ = Value.agg (wds 4 r.val ++ (wds 4 q.val ++ [])).toArray
  rw [h2]; simp
end
end Go.Sx

/-
  Points by bytes; small facts for the statements of layer 9.
-/
namespace Go.Sx
open Ed (F P inv pw Pt)

theorem list32 {l : List Nat} (h : l.length = 32) : ∃ b0 b1 b2 b3 b4 b5 b6 b7 b8 b9 b10 b11 b12 b13 b14 b15 b16 b17 b18 b19 b20 b21 b22 b23 b24 b25 b26 b27 b28 b29 b30 b31,
    l = [b0, b1, b2, b3, b4, b5, b6, b7, b8, b9, b10, b11, b12, b13, b14, b15, b16, b17, b18, b19, b20, b21, b22, b23, b24, b25, b26, b27, b28, b29, b30, b31] := by
  match l, h with
  | [b0, b1, b2, b3, b4, b5, b6, b7, b8, b9, b10, b11, b12, b13, b14, b15, b16, b17, b18, b19, b20, b21, b22, b23, b24, b25, b26, b27, b28, b29, b30, b31], _ => exact ⟨_, _, _, _, _, _, _, _, _, _, _, _, _, _, _, _, _, _, _, _, _, _, _, _, _, _, _, _, _, _, _, _, rfl⟩

/-- 0, -1 -/
def Pn : Pt := ⟨0, -1, by unfold Ed.On; decide +kernel⟩
def okOr (o : Except Nat Pt) (q : Pt) : Pt := match o with
  | .ok p => p
  | .error _ => q
def pickP (b : List Nat) : Pt :=
  if b.getD 31 0 % 8 = 0 then 0 else if b.getD 31 0 % 8 = 1 then Pn
  else if b.getD 31 0 % 8 = 2 then okOr (Ed.readP true 0) (Ed.smul (b.getD 0 0 + 18446744073709551616 * b.getD 1 0) Ed.Bp)
  else if b.getD 31 0 % 8 = 3 then okOr (Ed.readP true (le b)) (Ed.smul (b.getD 0 0 + 18446744073709551616 * b.getD 1 0) Ed.Bp)
  else Ed.smul (b.getD 0 0 + 18446744073709551616 * b.getD 1 0) Ed.Bp
theorem readP_err {k : Bool} {m n : Nat} (h : Ed.readP k m = .error n) : n = 3 ∨ n = 5 := by
  unfold Ed.readP at h
  split at h
  · split at h
    · simp only [] at h
      split at h
      · split at h
        · split at h
          · cases h; exact .inr rfl
          · cases h
        · cases h
      · cases h; exact .inr rfl
    · cases h; exact .inr rfl
  · cases h; exact .inl rfl
def Φpick (ds : List Value) (r : Value) : Prop := ∃ b, isB b ∧ b.length = 32 ∧ ds = [bts b] ∧ r = PV (pickP b)
theorem Pn_PV : fn [0, 0 - 1] = PV Pn := by
  show fn [0, 0 - 1] = fn [0, -1]
  rw [zero_sub']
theorem read_zero : le [0, 0, 0, 0, 0, 0, 0, 0, 0, 0, 0, 0, 0, 0, 0, 0, 0, 0, 0, 0, 0, 0, 0, 0, 0, 0, 0, 0, 0, 0, 0, 0] = 0 := by decide
end Go.Sx

/-
  Sums of few points; numbers of one word.
-/
namespace Go.Sx
open Ed (F P inv pw Pt)
theorem nums_one {n : Nat} (h : n < 18446744073709551616) : nums [n] = .agg #[U n, U 0, U 0, U 0] := nums_words h (by decide) (by decide) (by decide) (by omega)
theorem sumP0 : Ed.sumP [] = 0 := rfl
theorem sumP1 (p : Pt) : Ed.sumP [p] = p := Ed.zero_add p
theorem sumP2 (p q : Pt) : Ed.sumP [p, q] = p + q := by show 0 + p + q = p + q; rw [Ed.zero_add]
theorem sumP3 (p q r : Pt) : Ed.sumP [p, q, r] = p + q + r := by show 0 + p + q + r = _; rw [Ed.zero_add]
end Go.Sx

/-
  A point's bytes lead back to it; what is read has just those bytes.
-/
namespace Go.Sx
open Ed (F P inv pw Pt)

/-- a point's number: y, and x's oddness as the highest bit -/
def pnum (p : Pt) : Nat := p.y.val + 2 ^ 255 * (p.x.val % 2)
theorem p255 : (2 : Nat) ^ 255 = 57896044618658097711785492504343953926634992332820282019728792003956564819968 := by decide
theorem pnum_lt (p : Pt) : pnum p < 256 ^ 32 := by
  have := p.y.isLt
  have h : P = 57896044618658097711785492504343953926634992332820282019728792003956564819949 := rfl
  have e : (256 : Nat) ^ 32 = 115792089237316195423570985008687907853269984665640564039457584007913129639936 := by decide
  unfold pnum; rw [p255, e]; omega
theorem pnum_mod (p : Pt) : pnum p % 2 ^ 255 = p.y.val := by
  have := p.y.isLt
  have h : P = 57896044618658097711785492504343953926634992332820282019728792003956564819949 := rfl
  unfold pnum; rw [p255]; omega
theorem pnum_bit (p : Pt) : pnum p / 2 ^ 255 % 2 = p.x.val % 2 := by
  have := p.y.isLt
  have h : P = 57896044618658097711785492504343953926634992332820282019728792003956564819949 := rfl
  unfold pnum; rw [p255]; omega
theorem isOdd_iff (x : F) : Ed.isOdd x = true ↔ x.val % 2 = 1 := by unfold Ed.isOdd; simp
theorem neg_sub (a : F) : -(0 - a) = a := by grind
theorem neg_mk {a b : F} {h : Ed.On a b} {p : Pt} (h1 : -a = p.x) (h2 : b = p.y) : -(⟨a, b, h⟩ : Pt) = p := Ed.Pt.ext h1 h2
theorem mk_eq {a b : F} {h : Ed.On a b} {p : Pt} (h1 : a = p.x) (h2 : b = p.y) : (⟨a, b, h⟩ : Pt) = p := Ed.Pt.ext h1 h2
theorem read_num (p : Pt) (n : Nat) (h1 : n % 2 ^ 255 = p.y.val) (h2 : n / 2 ^ 255 % 2 = p.x.val % 2) : Ed.readP true n = .ok p := by
  have hx := Ed.on_iff.1 p.on
  have hs : Ed.isSq (Ed.uv p.y) = true := by rw [← hx]; exact Ed.isSq_sq p.x
  have hr : Ed.root (Ed.uv p.y) = if Ed.isOdd p.x then 0 - p.x else p.x := by rw [← hx]; exact Ed.root_of_sq
  have hP : n % 2 ^ 255 < P := by rw [h1]; exact p.y.isLt
  have hy : (⟨n % 2 ^ 255, hP⟩ : F) = p.y := Fin.ext h1
  unfold Ed.readP
  rw [if_pos rfl, dif_pos hP]
  simp only [hy]
  rw [dif_pos hs]
  by_cases ho : Ed.isOdd p.x = true
  · rw [if_pos ho] at hr
    have hb := (isOdd_iff _).1 ho
    have hne : p.x ≠ 0 := by intro e; rw [e] at hb; exact absurd hb (by decide)
    rw [if_pos (by rw [h2]; exact hb), if_neg (by rw [hr]; intro e; apply hne; have := neg_sub p.x; rw [e] at this; rw [← this]; decide)]
    exact congrArg Except.ok (neg_mk (by rw [hr]; exact neg_sub _) rfl)
  · rw [if_neg ho] at hr
    have hb : ¬ p.x.val % 2 = 1 := fun e => ho ((isOdd_iff _).2 e)
    rw [if_neg (by rw [h2]; exact hb)]
    exact congrArg Except.ok (mk_eq hr rfl)
theorem read_pt (p : Pt) : Ed.readP true (pnum p) = .ok p := read_num p _ (pnum_mod p) (pnum_bit p)
theorem read_bytes (p : Pt) : Ed.readP true (le (bytesOf 32 (pnum p))) = .ok p := by
  rw [le_bytesOf, Nat.mod_eq_of_lt (pnum_lt p), read_pt]
/-- what is read has just that number -/
theorem num_read {n : Nat} {p : Pt} (hn : n < 256 ^ 32) (h : Ed.readP true n = .ok p) : pnum p = n := by
  have e : (256 : Nat) ^ 32 = 115792089237316195423570985008687907853269984665640564039457584007913129639936 := by decide
  rw [e] at hn
  unfold Ed.readP at h
  rw [if_pos rfl] at h
  split at h
  · rename_i hP
    simp only [] at h
    split at h
    · rename_i hs
      obtain ⟨h1, h2⟩ := Ed.root_sq hs
      have h3 : ¬ (Ed.root (Ed.uv ⟨n % 2 ^ 255, hP⟩)).val % 2 = 1 := fun e => by rw [(isOdd_iff _).2 e] at h2; cases h2
      split at h
      · rename_i hb
        split at h
        · cases h
        · rename_i hz
          have hp := Except.ok.inj h
          subst hp
          have h4 := Ed.odd_neg hz
          rw [h2] at h4
          have h5 := (isOdd_iff _).1 h4
          show n % 2 ^ 255 + 2 ^ 255 * ((-(Ed.root (Ed.uv ⟨n % 2 ^ 255, hP⟩))).val % 2) = n
          rw [← zero_sub', h5, p255]
          rw [p255] at hb
          omega
      · rename_i hb
        have hp := Except.ok.inj h
        subst hp
        show n % 2 ^ 255 + 2 ^ 255 * ((Ed.root (Ed.uv ⟨n % 2 ^ 255, hP⟩)).val % 2) = n
        have ht : (Ed.root (Ed.uv ⟨n % 2 ^ 255, hP⟩)).val % 2 = 0 := by omega
        rw [ht, p255]
        rw [p255] at hb
        omega
    · cases h
  · cases h
end Go.Sx

/-
  From a function's contract to what a row says of a statement: it answers true, and what it was handed reads as before.
-/
namespace Go.Sx
open Go.RowKit (Below)
open Go.ChangeShapes Go.WideShapes Go.ChangeAt
open Ed (F P inv pw Pt)

theorem calls_of_ctr {Pr : Program} {G : Glb} {f : Nat} {fs : FS} {Φ : List Value → Value → Prop} {fn : Func} (h : Ctr Pr G f fs Φ) (hf : Pr.funcs[f]? = some fn) (hb : fn.body.isSome = true) (hnm : (fn.name == "runtime.NumGoroutine") = false)
    {w : World} {A : Nat → Prop} {vs ds : List Value} {r : Value} (hG : G.ok w) (hA : ArgsR w A fs.args vs ds) (hΦ : Φ ds r) :
    Calls Pr f vs.toArray w fun e w' => ∃ v, e = .returned v ∧ ResR G.ng w w' A fs.res v r ∧ Below w.heap.size w w' := by
  obtain ⟨c, hc⟩ := Option.isSome_iff_exists.1 hb
  rcases h w A vs ds r hG hA hΦ with ⟨v, w', h1, _⟩ | ⟨_, h2⟩
  · have hnm' : ¬ fn.name = "runtime.NumGoroutine" := by simpa using hnm
    simp [callFunc, Sem.run_bind, hf, hc, hnm', Result.andThen] at h1
  · exact h2

section
variable {H : Type} {enc : TypeId × Value → H} {Pr : Program} {w : World}

theorem all_stays (hl : laidOutB Pr = true) {W W' : World} {sp : Nat → Bool} (hb : Below W.heap.size W W') : ∀ (ts : List TypeId) (vs : List Value) (ds : List (DataW H)) (ps : List MemPlace),
    (ts.all fun t => Pr.readableRec t && decide (t < Pr.types.size)) = true → DataW.TrodAll enc Pr W 0 (fun _ => true) true ts vs ds ps → (∀ p ∈ ps, p.block < W.heap.size) → (∀ p ∈ ps, sp p.block = true) →
    DataW.TrodAll enc Pr W' 0 sp true ts vs ds ps
  | [], [], [], _, _, h, _, _ => h
  | t :: ts, v :: vs, d :: ds, ps, hr, h, hlt, hs => by
    obtain ⟨p, q, h1, h2, rfl⟩ := h
    simp only [List.all_cons, Bool.and_eq_true, decide_eq_true_eq] at hr
    refine ⟨p, q, WideElems.Trod_stays hl hr.1.1 hr.1.2 h1 (fun x hx => hb.same (hlt x (List.mem_append_left _ hx))) (fun x hx => hs x (List.mem_append_left _ hx)), all_stays hl hb ts vs ds q hr.2 h2 (fun x hx => hlt x (List.mem_append_right _ hx)) (fun x hx => hs x (List.mem_append_right _ hx)), rfl⟩
  | [], _ :: _, _, _, _, h, _, _ => h.elim
  | [], [], _ :: _, _, _, h, _, _ => h.elim
  | _ :: _, [], _, _, _, h, _, _ => h.elim
  | _ :: _, _ :: _, [], _, _, h, _, _ => h.elim

/-- what a row of a statement says, behind a call that answers true and leaves all as it was -/
theorem law_post {f : Func} {s : ChangeSpec} {fresh handsOn again : Bool} {W W' : World} {args : Array Value} {ds gs : List (DataW H)} {before : List MemPlace} {tb : TypeId}
    (hl : laidOutB Pr = true) (hr : (f.params.toList.all fun t => Pr.readableRec t && decide (t < Pr.types.size)) = true) (hvars : s.vars = []) (hres : f.resultTypes = #[tb]) (htb : Pr.underlying tb = some .bool)
    (hW : DataW.Whole enc Pr f.params.toList s.vars false W args.toList ds gs before) (hb : Below W.heap.size W W')
    (hs : s.fn H ds = { results := [.lit (.bool true)], args := ds }) :
    s.post enc Pr f false fresh handsOn again W args (.bool true) W' ∧ W.keptBut W' (fun _ => False) := by
  have hlt := hW.lt
  have hW0 := hW
  obtain ⟨p, q, h1, h2, rfl, h4, h5⟩ := hW0
  rw [hvars] at h2
  obtain ⟨rfl, rfl⟩ := trodVars_none h2
  have hlt' : ∀ x ∈ p, x.block < W.heap.size := fun x hx => hlt x (List.mem_append_left _ hx)
  have hfn : s.fn H (ds ++ []) = { results := [.lit (.bool true)], args := ds } := by rw [List.append_nil]; exact hs
  refine ⟨⟨ds, [], p ++ [], [], p, [], hW, ?_, ?_, ?_, hb.frame _, fun _ => ⟨?_, ?_⟩⟩, hb.frame _⟩
  · rw [hfn, hres]
    exact trodAll_mk1 (Go.RowKit.shut_bool htb true)
  · rw [hfn]
    exact all_stays hl hb _ _ _ _ hr h1 hlt' fun x hx => by simpa using hlt' x hx
  · rw [hvars, hfn]; exact rfl
  · intro j t r hj hv
    rw [hres] at hj hv
    match j, hj, hv with
    | 0, hj, hv =>
      simp [Value.resultList] at hj hv
      subst hj; subst hv
      exact Go.RowKit.okWide_bool_mk htb true
  · refine ⟨.lit (.bool true) :: ds, [], p, ?_, fun x hx _ => List.mem_append_left _ hx⟩
    rw [hvars, hres]
    refine ⟨p, [], ⟨[], p, Go.RowKit.shut_bool htb true, all_stays hl hb _ _ _ _ hr h1 hlt' fun _ _ => rfl, rfl⟩, rfl, by simp, ?_, by simp⟩
    intro b off hm
    rw [hb.frozen (p := ⟨b, off, none⟩) (hlt' _ hm)]
    exact h4 b off (List.mem_append_left _ hm)

/-! ### what is handed in -/
theorem wf_nat {k : IntKind} {x : Int} (hk : k.signed = false) (h : (Lit.int k x).wf = true) : ∃ n : Nat, x = n ∧ n < 2 ^ k.bits := by
  simp only [Lit.wf, Bool.and_eq_true, decide_eq_true_eq, IntKind.min, IntKind.max, hk] at h
  refine ⟨x.toNat, by simp at h; omega, ?_⟩
  have h2 := h.2
  simp at h2
  have h1 := h.1
  simp at h1
  have : ((2:Int) ^ k.bits) = ((2 ^ k.bits : Nat) : Int) := by simp
  omega

theorem open_cells {e : TypeId} {k : IntKind} {base : Nat} {sp : Nat → Bool} {hd : Bool} (he : Pr.underlying e = some (.int k)) {m : Nat} {cs : List Value} : ∀ (n : Nat) (j : Nat) (xs : List (DataW H × List MemPlace)),
    (List.range' j n).mapM (fun i => DataW.trod enc Pr w base sp hd m e ((cs.drop (i * 1)).take 1)) = some xs → ∃ zs : List Int, zs.length = n ∧ (cs.drop j).take n = zs.map (Value.int k) ∧ ∀ z ∈ zs, (Lit.int k z).wf = true := by
  intro n
  induction n with
  | zero => intro j xs _; exact ⟨[], rfl, by simp, by simp⟩
  | succ n ih =>
    intro j xs h
    rw [List.range'_succ, List.mapM_cons] at h
    simp only [bind, Option.bind_eq_some_iff, pure, Option.some.injEq] at h
    obtain ⟨a, ha, as, has, rfl⟩ := h
    obtain ⟨zs, h1, h2, h3⟩ := ih (j + 1) as has
    obtain ⟨z, hz, _, hw⟩ := DataW.trod_int he ha
    rw [Nat.mul_one] at hz
    refine ⟨z :: zs, by simp [h1], ?_, ?_⟩
    · cases hc : cs.drop j with
      | nil => rw [hc] at hz; simp at hz
      | cons c r =>
        rw [hc] at hz
        simp at hz
        subst hz
        have : cs.drop (j + 1) = r := by rw [← List.drop_drop, hc]; rfl
        rw [this] at h2
        simp [h2]
    · intro y hy
      rcases List.mem_cons.1 hy with rfl | hy
      · exact hw
      · exact h3 y hy

/-- an array of numbers -/
theorem open_arrN {t e : TypeId} {n : Nat} {k : IntKind} {r : Reach} {b0 base : Nat} {sp : Nat → Bool} {hd : Bool} {v : Value} {d : DataW H} {ps : List MemPlace} (ht : Pr.underlying t = some (.array n e)) (he : Pr.underlying e = some (.int k)) (hc : Pr.cellsOf e = 1) (hn : Pr.cellsOf t = n) (hk : k.signed = false)
    (hval : Value.okWide Pr w r b0 t v) (h : DataW.Trod enc Pr w base sp hd t v d ps) : ∃ l : List Nat, v = .agg (l.map (IK k)).toArray ∧ l.length = n ∧ ∀ x ∈ l, x < 2 ^ k.bits := by
  simp only [Value.okWide, ht] at hval
  obtain ⟨cs, rfl, hsz, _⟩ := hval
  obtain ⟨fuel, hf⟩ := h
  cases fuel with
  | zero => simp [DataW.trod] at hf
  | succ m =>
    simp only [DataW.trod, ht, Value.cells, hc] at hf
    split at hf
    · simp only [Option.map_eq_some_iff] at hf
      obtain ⟨xs, hx, _⟩ := hf
      rw [List.range_eq_range'] at hx
      obtain ⟨zs, h1, h2, h3⟩ := open_cells he n 0 xs hx
      rw [List.drop_zero, List.take_of_length_le (by simp [hsz, hn])] at h2
      refine ⟨zs.map Int.toNat, ?_, by simp [h1], ?_⟩
      · have e : cs = (zs.map (Value.int k)).toArray := by apply Array.ext'; simp [h2]
        rw [e, List.map_map]
        congr 2
        apply List.map_congr_left
        intro z hz
        obtain ⟨n, hn, _⟩ := wf_nat hk (h3 z hz)
        simp [IK, hn]
      · intro x hx
        obtain ⟨z, hz, rfl⟩ := List.mem_map.1 hx
        obtain ⟨n, hn, hlt⟩ := wf_nat hk (h3 z hz)
        rw [hn]; simpa using hlt
    · cases hf
theorem open_uint {t : TypeId} {k : IntKind} {r : Reach} {b0 base : Nat} {sp : Nat → Bool} {hd : Bool} {v : Value} {d : DataW H} {ps : List MemPlace} (ht : Pr.underlying t = some (.int k)) (hk : k.signed = false)
    (hval : Value.okWide Pr w r b0 t v) (h : DataW.Trod enc Pr w base sp hd t v d ps) : ∃ x : Nat, v = IK k x ∧ x < 2 ^ k.bits := by
  obtain ⟨n, rfl, _, _, hw⟩ := open_int ht hval h
  obtain ⟨x, rfl, hx⟩ := wf_nat hk hw
  exact ⟨x, rfl, hx⟩
/-- a number of four words -/
theorem open_num {l : List Nat} (h : l.length = 4) (hb : ∀ x ∈ l, x < 2 ^ 64) : ∃ n, n < 115792089237316195423570985008687907853269984665640564039457584007913129639936 ∧ Value.agg (l.map (IK .u64)).toArray = nums [n] := by
  match l, h with
  | [a, b, c, d], _ =>
    have p : (2:Nat) ^ 64 = 18446744073709551616 := by decide
    simp only [List.forall_mem_cons, p] at hb
    obtain ⟨h1, h2, h3, h4, _⟩ := hb
    refine ⟨a + 18446744073709551616 * (b + 18446744073709551616 * (c + 18446744073709551616 * d)), by omega, ?_⟩
    rw [nums_words h1 h2 h3 h4 rfl]; rfl
/-- a slice of numbers -/
theorem open_slice {t e : TypeId} {k : IntKind} {r : Reach} {b0 : Nat} {v : Value} {d : DataW H} {ps : List MemPlace} (ht : Pr.underlying t = some (.slice e)) (he : Pr.underlying e = some (.int k)) (hc : Pr.cellsOf e = 1) (hk : k.signed = false)
    (hval : Value.okWide Pr w r b0 t v) (h : DataW.Trod enc Pr w 0 (fun _ => true) true t v d ps) :
    ∃ l : List Nat, S1R w (fun _ => True) (.sv 1) v (.agg (l.map (IK k)).toArray) ∧ (∀ x ∈ l, x < 2 ^ k.bits) := by
  obtain ⟨fuel, hf⟩ := h
  have hv1 : v.cells.toList = [v] ∨ ∃ cs, v = .agg cs := by
    cases v <;> first | exact .inl rfl | exact .inr ⟨_, rfl⟩
  have hv2 : v.cells.toList = [v] := by
    rcases hv1 with h | ⟨cs, rfl⟩
    · exact h
    · simp [Value.okWide, ht, Cell.okWide, Cell.ok] at hval
  rw [hv2] at hf
  rcases open_ints ht he hc hf with ⟨h1, _⟩ | ⟨a, len, cap, zs, h1, h2, h3, h4, h5, h6, h7, h8⟩
  · simp at h1
    subst h1
    exact ⟨[], ⟨⟨0, 0, 0, 0, true⟩, #[], rfl, rfl, nilR _, ⟨by decide, by simp, by simp⟩, fun h => by cases h⟩, by simp⟩
  · simp at h1
    subst h1
    simp only [Value.okWide, ht, Cell.okWide, Cell.ok] at hval
    obtain ⟨_, _, _, hspot, row, cells, hshape, _⟩ := hval
    simp only [if_true] at h5
    obtain ⟨b, o, sp⟩ := a
    simp only at hspot
    subst hspot
    have hbl : b < w.heap.size := by
      apply Classical.byContradiction
      intro hc
      have : w.heap[b]? = none := by simp; omega
      simp [World.shape?, this] at hshape
    have hsp : ∀ z ∈ zs, ∃ n : Nat, z = n ∧ n < 2 ^ k.bits := fun z hz => wf_nat hk (h8 z hz)
    have hmap : ((zs.take len).map Int.toNat).map (IK k) = (zs.take len).map (Value.int k) := by
      rw [List.map_map]
      apply List.map_congr_left
      intro z hz
      obtain ⟨n, hn, _⟩ := hsp z (List.mem_of_mem_take hz)
      simp [IK, hn]
    refine ⟨(zs.take len).map Int.toNat, ⟨⟨b, o, len, cap, false⟩, _, rfl, rfl, ?_, ?_, fun _ => trivial⟩, ?_⟩
    · rw [hmap]
      refine { nil := fun h => (by cases h), live := fun _ => hbl, at_ := fun _ j v hj => ?_, one := fun c hc => ?_ }
      · simp only [List.getElem?_map, Option.map_eq_some_iff] at hj
        obtain ⟨z, hz, rfl⟩ := hj
        rw [List.getElem?_take] at hz
        split at hz
        · have hjl : j < zs.length := (List.getElem?_eq_some_iff.1 hz).1
          have := h7 j hjl
          rw [List.getD_eq_getElem?_getD, hz] at this
          rw [add_plain] at this
          simpa using this
        · cases hz
      · simp only [List.mem_map] at hc
        obtain ⟨z, _, rfl⟩ := hc
        rfl
    · refine ⟨by decide, ?_, h3⟩
      simp; omega
    · intro x hx
      obtain ⟨z, hz, rfl⟩ := List.mem_map.1 hx
      obtain ⟨n, hn, hlt⟩ := hsp z (List.mem_of_mem_take hz)
      rw [hn]; simpa using hlt
end
end Go.Sx
