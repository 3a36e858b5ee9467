/- Arrays of numbers; runs by name; steps. -/
import Derived.Test.YtpeafegfjhljmaaVC
import Derived.ChangeKeysEq
import Derived.Laws.StructEq
/-
  Cuts; states that say less; arrays of numbers, and when they are equal.
-/
namespace Go.Sx
open Go.RowKit (Below)

section
variable {P : Program} {G : Glb} {C : Cfg} {X : Cx P G C} {Q : Exit → Act → World → Prop} {S : St} {k : List It} {e : Ex} {l : List Value}

/-- the first of two pieces by itself -/
theorem Jd.cut {a b : Code} (h : Jd X (wpK P Q (.c b :: k)) S [.c a] .nor l) : Jd X Q S (.c (.seq a b) :: k) .nor l := by
  intro σ ac w hg
  have := h σ ac w hg
  show (Code.seq a b).wp P (wpK P Q k) ac w
  refine wp_seq (wp_mono (show a.wp P (wpK P (wpK P Q (.c b :: k)) []) ac w from this) fun e ac w he => ?_)
  cases e <;> exact he
theorem Jd.back (h : Jd X Q S k e l) : Jd X (wpK P Q k) S [] e l := h
theorem Jd.weak {T : St} {m : Nat} {τ : List AV} {π : List (Nat × Nat)} (hfit : fit l.length m T S = some (τ, π)) (hT : T.vOk (l.length + m) = true)
    (h : Jd X Q T k e (l ++ τ.map (AV.den (lv l)))) : Jd X Q S k e l := by
  intro σ a w hg
  obtain ⟨σ', hg'⟩ := fit_gam (l := l) hfit hT (fun _ _ => rfl) hg
  exact h σ' a w hg'
end

def Fin.code : Fin → Code
  | .loop c _ _ => c
  | .rng _ _ _ b _ _ => b
  | _ => .skip
def Fin.kont : Fin → List It
  | .loop _ k _ => k
  | .rng _ _ _ _ k _ => k
  | _ => []
def codeOf (r : Option Ran) : Code := match r with | some r => r.f.code | none => .skip
def kontOf (r : Option Ran) : List It := match r with | some r => r.f.kont | none => []

/-! ### arrays of numbers -/
def IK (k : IntKind) (n : Nat) : Value := .int k (n : Int)
def wdn : Nat → Nat → List Nat
  | 0, _ => []
  | k + 1, n => n % 18446744073709551616 :: wdn k (n / 18446744073709551616)
theorem wds_eq (k : Nat) : ∀ n, wds k n = (wdn k n).map (IK .u64) := by
  induction k with
  | zero => intro n; rfl
  | succ k ih => intro n; simp only [wds, wdn, List.map_cons, ih]; rfl
theorem wdn_len (k : Nat) : ∀ n, (wdn k n).length = k := by
  induction k with
  | zero => intro n; rfl
  | succ k ih => intro n; simp only [wdn, List.length_cons, ih]
theorem wdn_inj (k : Nat) : ∀ n m, n < 18446744073709551616 ^ k → m < 18446744073709551616 ^ k → wdn k n = wdn k m → n = m := by
  induction k with
  | zero => intro n m hn hm _; simp at hn hm; omega
  | succ k ih =>
    intro n m hn hm h
    simp only [wdn, List.cons.injEq] at h
    rw [Nat.pow_succ] at hn hm
    have := ih (n / 18446744073709551616) (m / 18446744073709551616) (by omega) (by omega) h.2
    omega
/-- numbers of four words each, one behind the other -/
def nums (l : List Nat) : Value := .agg (l.flatMap (wds 4)).toArray
def numw (l : List Nat) : List Nat := l.flatMap (wdn 4)
theorem nums_eq (l : List Nat) : nums l = .agg ((numw l).map (IK .u64)).toArray := by
  unfold nums numw
  congr 2
  induction l with
  | nil => rfl
  | cons x l ih => simp only [List.flatMap_cons, List.map_append, ih, wds_eq]
theorem numw_len (l : List Nat) : (numw l).length = 4 * l.length := by
  unfold numw
  induction l with
  | nil => rfl
  | cons x l ih => simp only [List.flatMap_cons, List.length_append, List.length_cons, ih, wdn_len]; omega
theorem p256' : (18446744073709551616:Nat) ^ 4 = 115792089237316195423570985008687907853269984665640564039457584007913129639936 := by decide
theorem numw_inj : ∀ (l m : List Nat), l.length = m.length → (∀ x ∈ l, x < 2 ^ 256) → (∀ x ∈ m, x < 2 ^ 256) → (numw l = numw m ↔ l = m) := by
  intro l
  induction l with
  | nil => intro m h _ _; cases m with
    | nil => simp
    | cons y m => simp at h
  | cons x l ih =>
    intro m h hl hm
    cases m with
    | nil => simp at h
    | cons y m =>
      have := ih m (by simpa using h) (fun z hz => hl z (List.mem_cons_of_mem _ hz)) (fun z hz => hm z (List.mem_cons_of_mem _ hz))
      constructor
      · intro e
        simp only [numw, List.flatMap_cons] at e
        have hlen : (wdn 4 x).length = (wdn 4 y).length := by rw [wdn_len, wdn_len]
        obtain ⟨e1, e2⟩ := List.append_inj e hlen
        have hx := hl x (by simp)
        have hy := hm y (by simp)
        rw [show (2:Nat) ^ 256 = 18446744073709551616 ^ 4 by decide] at hx hy
        rw [wdn_inj 4 x y hx hy e1, this.1 e2]
      · intro e; rw [e]

section
variable {P : Program} {w : World}

theorem eqItems_ik {e : TypeId} {k : IntKind} (he : P.underlying e = some (.int k)) (hs : P.cellsOf e = 1) (d : Nat) (xs ys : List Nat) : ∀ (is : List Nat), (∀ i ∈ is, i < xs.length ∧ i < ys.length) →
    (Op.eqItems (d + 1) e (P.cellsOf e) (xs.map (IK k)).toArray (ys.map (IK k)).toArray is).run P w = .ok (is.all fun i => xs[i]? == ys[i]?) w := by
  intro is
  induction is with
  | nil => intro _; simp [Op.eqItems]
  | cons i is ih =>
    intro h
    obtain ⟨h1, h2⟩ := h i (by simp)
    have hp : P.plainKey e = true := by simp [Program.plainKey, he]
    have p1 : (part e (xs.map (IK k)).toArray (i * P.cellsOf e)).run P w = .ok (IK k xs[i]) w := run_part_plain w hp (by rw [hs]; simp [h1])
    have p2 : (part e (ys.map (IK k)).toArray (i * P.cellsOf e)).run P w = .ok (IK k ys[i]) w := run_part_plain w hp (by rw [hs]; simp [h2])
    have p3 : (Op.equalIn (d + 1) e (IK k xs[i]) (IK k ys[i])).run P w = .ok (((xs[i] : Nat) : Int) == ((ys[i] : Nat) : Int)) w := run_equalIn_int w d e k k _ _ he
    simp only [Op.eqItems, Sem.run_bind, p1, p2, p3, Result.andThen_ok, List.all_cons, List.getElem?_eq_getElem h1, List.getElem?_eq_getElem h2]
    have e0 : (((xs[i] : Nat) : Int) == ((ys[i] : Nat) : Int)) = (some xs[i] == some ys[i]) := by
      rw [Bool.eq_iff_iff]; simp only [beq_iff_eq, Option.some.injEq]; omega
    rw [e0]
    cases hb : (some xs[i] == some ys[i])
    · simp
    · have := ih fun j hj => h j (List.mem_cons_of_mem _ hj)
      simpa using this

theorem all_range {xs ys : List Nat} {n : Nat} (hx : xs.length = n) (hy : ys.length = n) : ((List.range n).all fun i => xs[i]? == ys[i]?) = decide (xs = ys) := by
  rw [Bool.eq_iff_iff]
  simp only [List.all_eq_true, List.mem_range, beq_iff_eq, decide_eq_true_eq]
  constructor
  · intro h
    apply List.ext_getElem?
    intro i
    by_cases hi : i < n
    · exact h i hi
    · rw [List.getElem?_eq_none (by omega), List.getElem?_eq_none (by omega)]
  · rintro rfl _ _; rfl

/-- a type whose values are numbers in cells, equal if these are -/
structure EqT (P : Program) (T : TypeId) (k : IntKind) (n : Nat) : Prop where
  guard : P.eqGuardType P.depth T = false
  eq : ∀ (d : Nat) (xs ys : List Nat), xs.length = n → ys.length = n → ∀ w, (Op.equalIn (d + 3) T (.agg (xs.map (IK k)).toArray) (.agg (ys.map (IK k)).toArray)).run P w = .ok (decide (xs = ys)) w

theorem run_eqArr {T e : TypeId} {n : Nat} {k : IntKind} {i : TypeInfo} (hu : P.underlying T = some (.array n e)) (hi : P.info? e = some i) (he : P.underlying e = some (.int k)) (hs : P.cellsOf e = 1)
    (d : Nat) (xs ys : List Nat) (hx : xs.length = n) (hy : ys.length = n) (w : World) : (Op.equalIn (d + 2) T (.agg (xs.map (IK k)).toArray) (.agg (ys.map (IK k)).toArray)).run P w = .ok (decide (xs = ys)) w := by
  rw [run_equalIn_array w (d + 1) _ _ hu hi, eqItems_ik he hs d xs ys _ (fun i hi => by have := List.mem_range.1 hi; omega), all_range hx hy]
theorem eqT_arr {T e : TypeId} {n : Nat} {k : IntKind} {i : TypeInfo} (hg : P.eqGuardType P.depth T = false) (hu : P.underlying T = some (.array n e)) (hi : P.info? e = some i) (he : P.underlying e = some (.int k)) (hs : P.cellsOf e = 1) : EqT P T k n :=
  ⟨hg, fun d xs ys hx hy w => run_eqArr hu hi he hs (d + 1) xs ys hx hy w⟩

theorem run_part_arr {T e : TypeId} {n : Nat} (hu : P.underlying T = some (.array n e)) {i : TypeInfo} (hi : P.info? T = some i) (hs : P.cellsOf T = n) (xs : List Value) (off : Nat) (w : World) :
    (part T xs.toArray off).run P w = .ok (.agg ((xs.drop off).take n).toArray) w := by
  have h2 : i.size = n := by rw [← hs]; simp [Program.cellsOf, hi]
  simp [part, isAgg, run_underlying hu, run_sizeOf w hi, hs, Result.andThen]

/-- a pair of arrays -/
theorem eqT_two {T t e : TypeId} {n : Nat} {k : IntKind} {i j : TypeInfo} {f g : Field} (hg : P.eqGuardType P.depth T = false) (hT : P.underlying T = some (.struct (P.fieldsOf T))) (hp : P.stoodInHeld T = false)
    (hf : (P.fieldsOf T).toList = [f, g]) (f1 : f.name ≠ "_") (g1 : g.name ≠ "_") (f2 : f.type = t) (g2 : g.type = t) (f3 : f.offset = 0) (g3 : g.offset = n)
    (hu : P.underlying t = some (.array n e)) (hj : P.info? t = some j) (hts : P.cellsOf t = n) (hi : P.info? e = some i) (he : P.underlying e = some (.int k)) (hs : P.cellsOf e = 1) : EqT P T k (n + n) := by
  refine ⟨hg, fun d xs ys hx hy w => ?_⟩
  rw [run_equalIn_struct w (d + 2) T _ _ hT hp, hf]
  have p := fun (zs : List Nat) (off : Nat) => run_part_arr (P := P) hu hj hts (zs.map (IK k)) off w
  have q := fun (us vs : List Nat) (h1 : us.length = n) (h2 : vs.length = n) => run_eqArr (P := P) hu hi he hs d us vs h1 h2 w
  have hm : ∀ (zs : List Nat) (off : Nat), ((zs.map (IK k)).drop off).take n = ((zs.drop off).take n).map (IK k) := fun zs off => by simp [List.map_drop, List.map_take]
  simp only [hm] at p
  have l1 : (xs.take n).length = n := by simp [hx]
  have l2 : (ys.take n).length = n := by simp [hy]
  have l3 : ((xs.drop n).take n).length = n := by simp [hx]
  have l4 : ((ys.drop n).take n).length = n := by simp [hy]
  simp only [Op.eqFields, f1, g1, ne_eq, not_false_eq_true, if_true, f2, g2, f3, g3, Sem.run_bind, p, Result.andThen_ok, List.drop_zero, q _ _ l1 l2]
  have hxs : xs = xs.take n ++ (xs.drop n).take n := by
    rw [List.take_of_length_le (l := xs.drop n) (by simp [hx]), List.take_append_drop]
  have hys : ys = ys.take n ++ (ys.drop n).take n := by
    rw [List.take_of_length_le (l := ys.drop n) (by simp [hy]), List.take_append_drop]
  have hiff : xs = ys ↔ xs.take n = ys.take n ∧ (xs.drop n).take n = (ys.drop n).take n := by
    constructor
    · rintro rfl; exact ⟨rfl, rfl⟩
    · rintro ⟨a, b⟩; rw [hxs, hys, a, b]
  have hd : decide (xs = ys) = (decide (xs.take n = ys.take n) && decide ((xs.drop n).take n = (ys.drop n).take n)) := by
    rw [Bool.eq_iff_iff, Bool.and_eq_true, decide_eq_true_eq, decide_eq_true_eq, decide_eq_true_eq]; exact hiff
  rw [hd]
  generalize decide (xs.take n = ys.take n) = p1
  generalize hp2 : decide ((xs.drop n).take n = (ys.drop n).take n) = p2
  have q2 := q _ _ l3 l4
  rw [hp2, ← hm, ← hm] at q2
  cases p1 <;> cases p2 <;> simp [p, q2]
end

section
variable {P : Program} {G : Glb} {T : Nat} {a b : AV} {v : Nat} {cs : List Cmd} {n : Nat} {l : List Value} {K : List Value → Prop}

theorem vc_eqlA {k : IntKind} {m : Nat} (hT : EqT P T k m) {xs ys : List Nat} (h1 : ∀ z, a.den (lr (v + 1) (z :: l)) = .agg (xs.map (IK k)).toArray) (h2 : ∀ z, b.den (lr (v + 1) (z :: l)) = .agg (ys.map (IK k)).toArray) (hx : xs.length = m) (hy : ys.length = m) (hv : v = n)
    (hk : VR P G cs (v + 1) (Bo (decide (xs = ys)) :: l) K) : VR P G (.bin .eql T a b v :: cs) n l K := by
  simp only [VR, Cmd.tgt]
  refine ⟨_, hv, ⟨by rw [h1]; simp, fun w => ?_⟩, hk⟩
  rw [h1, h2, Sem.run_bind, run_eqGuard_agg w .eql T _ _ _ _ hT.guard]
  simp only [Result.andThen_ok, run_eql_struct w, hT.eq 9997 xs ys hx hy w]
  simp [lr, Bo]
theorem vc_neqA {k : IntKind} {m : Nat} (hT : EqT P T k m) {xs ys : List Nat} (h1 : ∀ z, a.den (lr (v + 1) (z :: l)) = .agg (xs.map (IK k)).toArray) (h2 : ∀ z, b.den (lr (v + 1) (z :: l)) = .agg (ys.map (IK k)).toArray) (hx : xs.length = m) (hy : ys.length = m) (hv : v = n)
    (hk : VR P G cs (v + 1) (Bo (!decide (xs = ys)) :: l) K) : VR P G (.bin .neq T a b v :: cs) n l K := by
  simp only [VR, Cmd.tgt]
  refine ⟨_, hv, ⟨by rw [h1]; simp, fun w => ?_⟩, hk⟩
  rw [h1, h2, Sem.run_bind, run_eqGuard_agg w .neq T _ _ _ _ hT.guard]
  simp only [Result.andThen_ok, run_neq_struct w, hT.eq 9997 xs ys hx hy w]
  simp [lr, Bo]

theorem vc_eqlN {m : Nat} (hT : EqT P T .u64 (4 * m)) {xs ys : List Nat} (h1 : ∀ z, a.den (lr (v + 1) (z :: l)) = nums xs) (h2 : ∀ z, b.den (lr (v + 1) (z :: l)) = nums ys) (hx : xs.length = m) (hy : ys.length = m)
    (bx : ∀ x ∈ xs, x < 2 ^ 256) (by_ : ∀ x ∈ ys, x < 2 ^ 256) (hv : v = n) (hk : VR P G cs (v + 1) (Bo (decide (xs = ys)) :: l) K) : VR P G (.bin .eql T a b v :: cs) n l K := by
  refine vc_eqlA hT (xs := numw xs) (ys := numw ys) (fun z => by rw [h1, nums_eq]) (fun z => by rw [h2, nums_eq]) (by rw [numw_len, hx]) (by rw [numw_len, hy]) hv ?_
  rwa [show decide (numw xs = numw ys) = decide (xs = ys) from decide_eq_decide.2 (numw_inj xs ys (by rw [hx, hy]) bx by_)]
theorem vc_neqN {m : Nat} (hT : EqT P T .u64 (4 * m)) {xs ys : List Nat} (h1 : ∀ z, a.den (lr (v + 1) (z :: l)) = nums xs) (h2 : ∀ z, b.den (lr (v + 1) (z :: l)) = nums ys) (hx : xs.length = m) (hy : ys.length = m)
    (bx : ∀ x ∈ xs, x < 2 ^ 256) (by_ : ∀ x ∈ ys, x < 2 ^ 256) (hv : v = n) (hk : VR P G cs (v + 1) (Bo (!decide (xs = ys)) :: l) K) : VR P G (.bin .neq T a b v :: cs) n l K := by
  refine vc_neqA hT (xs := numw xs) (ys := numw ys) (fun z => by rw [h1, nums_eq]) (fun z => by rw [h2, nums_eq]) (by rw [numw_len, hx]) (by rw [numw_len, hy]) hv ?_
  rwa [show decide (numw xs = numw ys) = decide (xs = ys) from decide_eq_decide.2 (numw_inj xs ys (by rw [hx, hy]) bx by_)]
end
end Go.Sx

/-
  Runs by name: what is known of them is computed.
-/
namespace Go.Sx

def finOf (r : Option Ran) : Fin := match r with | some r => r.f | none => default
def stOf (r : Option Ran) : St := (finOf r).st
def cmOf (r : Option Ran) : Option (List Cmd) := r.map Ran.cm
inductive Tg where
  | nor | ret | exit (n : Nat) | loop | rng
def Fin.tg : Fin → Tg
  | .done .nor _ => .nor
  | .done .ret _ => .ret
  | .done (.exit n) _ => .exit n
  | .loop .. => .loop
  | .rng .. => .rng

section
variable {P : Program} {G : Glb} {C : Cfg} {X : Cx P G C} {Q : Exit → Act → World → Prop} {S : St} {k : List It} {e : Ex} {l : List Value} {d : Nat → Option Bool} {u fuel gb : Nat} {E : Option Ran}

theorem Jd.go2 (n : Nat) (env : List Value) (hn : env.length = n) (he : env.reverse = l) (hE : E = ex1 C d u fuel gb n S k e) (cm : List Cmd) (hc : cmOf E = some cm)
    (hv : VR P G cm n env fun env => JF X Q env.reverse (finOf E)) : Jd X Q S k e l := by
  cases hr : E with
  | none => rw [hr] at hc; cases hc
  | some r =>
    rw [hr] at hc hv
    have : r.cm = cm := by simpa [cmOf] using hc
    rw [← this] at hv
    exact Jd.go n env hn he (by rw [← hE, hr]) hv

theorem JF.nor (h : (finOf E).tg = .nor) (hJ : Jd X Q (stOf E) [] .nor l) : JF X Q l (finOf E) := by
  unfold stOf at hJ
  cases hf : finOf E with
  | done e S => cases e <;> (rw [hf] at h; first | (cases h; done) | skip); rw [hf] at hJ; exact hJ
  | loop => rw [hf] at h; cases h
  | rng => rw [hf] at h; cases h
theorem JF.ret (h : (finOf E).tg = .ret) (hJ : Jd X Q (stOf E) [] .ret l) : JF X Q l (finOf E) := by
  unfold stOf at hJ
  cases hf : finOf E with
  | done e S => cases e <;> (rw [hf] at h; first | (cases h; done) | skip); rw [hf] at hJ; exact hJ
  | loop => rw [hf] at h; cases h
  | rng => rw [hf] at h; cases h
theorem JF.exit {n : Nat} (h : (finOf E).tg = .exit n) (hJ : Jd X Q (stOf E) [] (.exit n) l) : JF X Q l (finOf E) := by
  unfold stOf at hJ
  cases hf : finOf E with
  | done e S => cases e <;> (rw [hf] at h; first | (cases h; done) | skip); rw [hf] at hJ; cases h; exact hJ
  | loop => rw [hf] at h; cases h
  | rng => rw [hf] at h; cases h
def codeF (r : Option Ran) : Code := (finOf r).code
def kontF (r : Option Ran) : List It := (finOf r).kont
theorem JF.loop (h : (finOf E).tg = .loop) (hJ : Jd X Q (stOf E) (.c (.loop (codeF E)) :: kontF E) .nor l) : JF X Q l (finOf E) := by
  unfold stOf codeF kontF at hJ
  cases hf : finOf E with
  | done e S => cases e <;> (rw [hf] at h; cases h)
  | loop => rw [hf] at hJ; exact hJ
  | rng => rw [hf] at h; cases h

theorem Ends.fin2 {rs : List ResultVar} {sh : Sh} {r : Value} (h : Ends X Q rs sh r) {cm : List Cmd} {ds : List RD}
    (hr : (resOfS C sh rs).val S = some (cm, ds)) (hc : VC P G cm l fun _ => rdDen (lv l) ds = r) (hcm : cm.all (fun c => c.tgt.isNone) = true) (he : e = .nor ∨ e = .ret) : Jd X Q S [] e l :=
  h.fin he hr hc hcm

theorem Ends.fin3 {rs : List ResultVar} {sh : Sh} {r : Value} (h : Ends X Q rs sh r) (n : Nat) (env : List Value) (hn : env.length = n) (hl : env.reverse = l) {cm : List Cmd} {ds : List RD}
    (hr : (resOfS C sh rs).val S = some (cm, ds)) (hcm : cm.all (fun c => c.tgt.isNone) = true) (he : e = .nor ∨ e = .ret) (hc : VR P G cm n env fun _ => rdDen (lv env.reverse) ds = r) : Jd X Q S [] e l := by
  subst hl
  exact h.fin he hr (VC_of_VR (k := fun _ => rdDen (lv env.reverse) ds = r) hn hc) hcm
end

theorem bnd1 {x : Nat} (h : x < 115792089237316195423570985008687907853269984665640564039457584007913129639936) : ∀ z ∈ [x], z < 2 ^ 256 := by
  intro z hz
  rw [List.mem_singleton.1 hz, show (2:Nat) ^ 256 = 115792089237316195423570985008687907853269984665640564039457584007913129639936 by decide]; exact h
theorem bnd2 {x y : Nat} (h : x < 115792089237316195423570985008687907853269984665640564039457584007913129639936) (h' : y < 115792089237316195423570985008687907853269984665640564039457584007913129639936) : ∀ z ∈ [x, y], z < 2 ^ 256 := by
  intro z hz
  rcases List.mem_cons.1 hz with rfl | hz
  · rw [show (2:Nat) ^ 256 = 115792089237316195423570985008687907853269984665640564039457584007913129639936 by decide]; exact h
  · exact bnd1 h' z hz

/-- the words of a number -/
theorem nums_split {n : Nat} (h : n < 115792089237316195423570985008687907853269984665640564039457584007913129639936) : ∃ a b c d, a < 18446744073709551616 ∧ b < 18446744073709551616 ∧ c < 18446744073709551616 ∧ d < 18446744073709551616 ∧
    n = a + 18446744073709551616 * (b + 18446744073709551616 * (c + 18446744073709551616 * d)) ∧ nums [n] = .agg #[U a, U b, U c, U d] := by
  have h' : n < 2 ^ 256 := by rw [show (2:Nat) ^ 256 = 115792089237316195423570985008687907853269984665640564039457584007913129639936 by decide]; exact h
  obtain ⟨a, b, c, d, h1, h2, h3, h4, h5, h6⟩ := NV_split h'
  exact ⟨a, b, c, d, h1, h2, h3, h4, h5, h6⟩
theorem nums_words {n a b c d : Nat} (ha : a < 18446744073709551616) (hb : b < 18446744073709551616) (hc : c < 18446744073709551616) (hd : d < 18446744073709551616)
    (h : n = a + 18446744073709551616 * (b + 18446744073709551616 * (c + 18446744073709551616 * d))) : nums [n] = .agg #[U a, U b, U c, U d] := NV_eq ha hb hc hd h
/-- eight words -/
theorem nums_words2 {n m a b c d a' b' c' d' : Nat} (ha : a < 18446744073709551616) (hb : b < 18446744073709551616) (hc : c < 18446744073709551616) (hd : d < 18446744073709551616)
    (h : n = a + 18446744073709551616 * (b + 18446744073709551616 * (c + 18446744073709551616 * d)))
    (ha' : a' < 18446744073709551616) (hb' : b' < 18446744073709551616) (hc' : c' < 18446744073709551616) (hd' : d' < 18446744073709551616)
    (h' : m = a' + 18446744073709551616 * (b' + 18446744073709551616 * (c' + 18446744073709551616 * d'))) : nums [n, m] = .agg #[U a, U b, U c, U d, U a', U b', U c', U d'] := by
  have h1 : (wds 4 n).toArray = #[U a, U b, U c, U d] := Value.agg.inj (nums_words ha hb hc hd h ▸ (show Value.agg (wds 4 n).toArray = nums [n] from rfl))
  have h2 : (wds 4 m).toArray = #[U a', U b', U c', U d'] := Value.agg.inj (nums_words ha' hb' hc' hd' h' ▸ (show Value.agg (wds 4 m).toArray = nums [m] from rfl))
  have e1 : wds 4 n = [U a, U b, U c, U d] := congrArg Array.toList h1
  have e2 : wds 4 m = [U a', U b', U c', U d'] := congrArg Array.toList h2
  show Value.agg (wds 4 n ++ (wds 4 m ++ [])).toArray = _
  rw [e1, e2]; rfl
end Go.Sx

/-
  Steps for the other commands.
-/
namespace Go.Sx
open Go.RowKit (Below)

section
variable {P : Program} {G : Glb} {T : Nat} {a b : AV} {v : Nat} {cs : List Cmd} {n : Nat} {l : List Value} {K : List Value → Prop}

theorem vc_index {e m : Nat} {q k : IntKind} {cells : Array Value} {i : Nat} {r : Value} (hu : P.underlying T = some (.array m e)) (hi : (P.info? e).isSome = true) (he : P.underlying e = some (.int q)) (hs : P.cellsOf e = 1)
    (h1 : ∀ z, a.den (lr (v + 1) (z :: l)) = .agg cells) (h2 : ∀ z, b.den (lr (v + 1) (z :: l)) = .int k (i : Int)) (hm : i < m) (hr : cells[i]? = some r) (hv : v = n)
    (hk : VR P G cs (v + 1) (r :: l) K) : VR P G (.ext 0 (.index T (.tmp 0) (.tmp 1)) [a, b] v :: cs) n l K := by
  simp only [VR, Cmd.tgt]
  refine ⟨r, hv, ?_, hk⟩
  intro w
  obtain ⟨info, hinfo⟩ := Option.isSome_iff_exists.1 hi
  have hp : P.plainKey e = true := by simp [Program.plainKey, he]
  have hpart : (part e cells i).run P w = .ok r w := run_part_plain w hp hr
  have hlr : lr (v + 1) (r :: l) v = r := by simp [lr]
  rw [hlr]
  simp only [List.map_cons, List.map_nil, h1, h2]
  have ha : argEval [Value.agg cells, Value.int k (i : Int)] (.tmp 0) = .agg cells := rfl
  have hb : argEval [Value.agg cells, Value.int k (i : Int)] (.tmp 1) = .int k (i : Int) := rfl
  have hm' : (0:Int) ≤ (i:Int) ∧ (i:Int) < (m:Int) := ⟨by omega, by omega⟩
  simp [execOp, ha, hb, Instr.index, asIntOf, run_underlying hu, Result.andThen, hm', hm, run_sizeOf w hinfo, hs, hpart]

theorem vc_not {t : Bool} (h1 : ∀ z, a.den (lr (v + 1) (z :: l)) = Bo t) (hv : v = n) (hk : VR P G cs (v + 1) (Bo (!t) :: l) K) : VR P G (.un .not a v :: cs) n l K := by
  simp only [VR, Cmd.tgt]
  refine ⟨Bo (!t), hv, ?_, hk⟩
  intro w
  rw [h1]
  simp [Bo, Op.unary, lr]

theorem vc_conv {s d : Nat} {q q' k : IntKind} {x : Int} (hs : P.underlying s = some (.int q)) (hd : P.underlying d = some (.int q')) (h1 : ∀ z, a.den (lr (v + 1) (z :: l)) = .int k x) (hv : v = n)
    (hk : VR P G cs (v + 1) (.int q' (q'.wrap x) :: l) K) : VR P G (.conv s d a v :: cs) n l K := by
  simp only [VR, Cmd.tgt]
  refine ⟨.int q' (q'.wrap x), hv, ?_, hk⟩
  intro w
  rw [h1]
  simp [convert, run_underlying hs, run_underlying hd, Result.andThen, Conv.intToInt, lr]
theorem wrap_sm (k : IntKind) (x : Nat) (h : x < 9223372036854775808) (hk : k = .u64 ∨ k = .i64) : k.wrap (x : Int) = (x : Int) := by
  rcases hk with rfl | rfl
  · rw [wrap_u64]; omega
  · unfold IntKind.wrap; simp [IntKind.signed, IntKind.bits]; omega
theorem vc_conv_u8 {s d : Nat} {q k : IntKind} {x : Nat} (hs : P.underlying s = some (.int q)) (hd : P.underlying d = some (.int .u8)) (h1 : ∀ z, a.den (lr (v + 1) (z :: l)) = .int k (x : Int)) (hv : v = n)
    (hk : VR P G cs (v + 1) (IK .u8 (x % 256) :: l) K) : VR P G (.conv s d a v :: cs) n l K := by
  refine vc_conv hs hd h1 hv ?_
  rw [wrap_u8]; exact hk
theorem vc_conv_u64 {s d : Nat} {q k : IntKind} {x : Nat} (hs : P.underlying s = some (.int q)) (hd : P.underlying d = some (.int .u64)) (h1 : ∀ z, a.den (lr (v + 1) (z :: l)) = .int k (x : Int)) (hx : x < 18446744073709551616) (hv : v = n)
    (hk : VR P G cs (v + 1) (U x :: l) K) : VR P G (.conv s d a v :: cs) n l K := by
  refine vc_conv hs hd h1 hv ?_
  rw [wrap_u64, Nat.mod_eq_of_lt hx]; exact hk
theorem vc_conv_i64 {s d : Nat} {q k : IntKind} {x : Nat} (hs : P.underlying s = some (.int q)) (hd : P.underlying d = some (.int .i64)) (h1 : ∀ z, a.den (lr (v + 1) (z :: l)) = .int k (x : Int)) (hx : x < 9223372036854775808) (hv : v = n)
    (hk : VR P G cs (v + 1) (I x :: l) K) : VR P G (.conv s d a v :: cs) n l K := by
  refine vc_conv hs hd h1 hv ?_
  rw [wrap_sm _ _ hx (.inr rfl)]; exact hk

theorem vc_len {m es : Nat} {cells : Array Value} {k : Nat} (h1 : ∀ z, lr (v + 1) (z :: l) m = .agg cells) (h2 : cells.size = k * es) (hv : v = n) (hk : VR P G cs (v + 1) (I k :: l) K) : VR P G (.len m es v :: cs) n l K := by
  simp only [VR, Cmd.tgt]
  refine ⟨I k, hv, ⟨k, ?_, ?_⟩, hk⟩
  · rw [h1]; exact h2
  · simp [lr, I]

theorem vc_bnd {m q : Nat} {k : IntKind} {i : Nat} (h1 : lr n l m = .int k (i : Int)) (h : i < q) (hk : VR P G cs n l K) : VR P G (.bnd m q :: cs) n l K := by
  simp only [VR, Cmd.tgt]
  exact ⟨⟨k, i, h1, by omega, by omega⟩, hk⟩
theorem vc_bndl {m q es : Nat} {k : IntKind} {i : Nat} {cells : Array Value} (h1 : lr n l m = .int k (i : Int)) (h2 : lr n l q = .agg cells) (h : (i + 1) * es ≤ cells.size) (hk : VR P G cs n l K) : VR P G (.bndl m q es :: cs) n l K := by
  simp only [VR, Cmd.tgt]
  refine ⟨⟨k, i, h1, by omega, ?_⟩, hk⟩
  rw [h2]
  show ((i : Int).toNat + 1) * es ≤ cells.size
  rw [Int.toNat_natCast]; exact h
theorem vc_ltlen {j q es : Nat} {cells : Array Value} (h2 : lr n l q = .agg cells) (h : (j + 1) * es ≤ cells.size) (hk : VR P G cs n l K) : VR P G (.ltlen j q es :: cs) n l K := by
  simp only [VR, Cmd.tgt]
  refine ⟨?_, hk⟩
  show _ ≤ (lr n l q).cells.size
  rw [h2]; exact h
theorem vc_get {r : RC} {i : Nat} {x : Value} {cl : List Value} (h1 : ∀ z, r.cden (lr (v + 1) (z :: l)) = cl) (h2 : cl[i]? = some x) (hv : v = n) (hk : VR P G cs (v + 1) (x :: l) K) : VR P G (.get r i v :: cs) n l K := by
  simp only [VR, Cmd.tgt]
  refine ⟨x, hv, ?_, hk⟩
  show (r.cden _)[i]? = some (lr (v + 1) (x :: l) v)
  rw [h1, h2]; simp [lr]
theorem vc_getx {r : RC} {m sc : Nat} {k : IntKind} {i : Nat} {x : Value} {cl : List Value} (h1 : ∀ z, r.cden (lr (v + 1) (z :: l)) = cl) (h3 : ∀ z, lr (v + 1) (z :: l) m = .int k (i : Int)) (h2 : cl[i * sc]? = some x) (hv : v = n)
    (hk : VR P G cs (v + 1) (x :: l) K) : VR P G (.getx r m sc v :: cs) n l K := by
  simp only [VR, Cmd.tgt]
  refine ⟨x, hv, ?_, hk⟩
  show (r.cden _)[toN (lr (v + 1) (x :: l) m) * sc]? = some (lr (v + 1) (x :: l) v)
  rw [h1, h3]
  simp only [toN, Int.toNat_natCast]
  rw [h2]; simp [lr]
theorem vc_getxa {r : RC} {m sc sz : Nat} {k : IntKind} {i : Nat} {cl : List Value} (h1 : ∀ z, r.cden (lr (v + 1) (z :: l)) = cl) (h3 : ∀ z, lr (v + 1) (z :: l) m = .int k (i : Int)) (h2 : i * sc + sz ≤ cl.length) (hv : v = n)
    (hk : VR P G cs (v + 1) (.agg ((cl.drop (i * sc)).take sz).toArray :: l) K) : VR P G (.getxa r m sc sz v :: cs) n l K := by
  simp only [VR, Cmd.tgt]
  refine ⟨.agg ((cl.drop (i * sc)).take sz).toArray, hv, ?_, hk⟩
  show toN (lr (v + 1) _ m) * sc + sz ≤ (r.cden _).length ∧ lr (v + 1) _ v = .agg (((r.cden _).drop (toN (lr (v + 1) _ m) * sc)).take sz).toArray
  rw [h1, h3]
  simp only [toN, Int.toNat_natCast]
  exact ⟨h2, by simp [lr]⟩
theorem vc_set {r : RC} {i : Nat} {x : A1} {y : Value} {cl : List Value} (h1 : ∀ z, r.cden (lr (v + 1) (z :: l)) = cl) (h3 : ∀ z, x.den (lr (v + 1) (z :: l)) = y) (h2 : i < cl.length) (hv : v = n) (hk : VR P G cs (v + 1) (.agg (cl.set i y).toArray :: l) K) : VR P G (.set r i x v :: cs) n l K := by
  simp only [VR, Cmd.tgt]
  refine ⟨.agg (cl.set i y).toArray, hv, ?_, hk⟩
  show i < (r.cden _).length ∧ lr (v + 1) _ v = .agg ((r.cden _).set i (x.den _)).toArray
  rw [h1, h3]
  exact ⟨h2, by simp [lr]⟩
theorem vc_setx {r : RC} {m sc : Nat} {k : IntKind} {i : Nat} {x : A1} {y : Value} {cl : List Value} (h1 : ∀ z, r.cden (lr (v + 1) (z :: l)) = cl) (h4 : ∀ z, lr (v + 1) (z :: l) m = .int k (i : Int)) (h3 : ∀ z, x.den (lr (v + 1) (z :: l)) = y) (h2 : i * sc < cl.length) (hv : v = n)
    (hk : VR P G cs (v + 1) (.agg (cl.set (i * sc) y).toArray :: l) K) : VR P G (.setx r m sc x v :: cs) n l K := by
  simp only [VR, Cmd.tgt]
  refine ⟨.agg (cl.set (i * sc) y).toArray, hv, ?_, hk⟩
  show toN (lr (v + 1) _ m) * sc < (r.cden _).length ∧ lr (v + 1) _ v = .agg ((r.cden _).set (toN (lr (v + 1) _ m) * sc) (x.den _)).toArray
  rw [h1, h3, h4]
  simp only [toN, Int.toNat_natCast]
  exact ⟨h2, by simp [lr]⟩
theorem vc_app {r q : RC} {el es : Nat} {cl dl : List Value} (h1 : ∀ z, r.cden (lr (v + 1) (z :: l)) = cl) (h2 : ∀ z, q.cden (lr (v + 1) (z :: l)) = dl) (h3 : cl.length + dl.length ≤ 100000) (hv : v = n)
    (hk : VR P G cs (v + 1) (.agg (cl ++ dl).toArray :: l) K) : VR P G (.app r q el es v :: cs) n l K := by
  simp only [VR, Cmd.tgt]
  refine ⟨.agg (cl ++ dl).toArray, hv, ?_, hk⟩
  show (r.cden _).length + (q.cden _).length ≤ 100000 ∧ lr (v + 1) _ v = .agg (r.cden _ ++ q.cden _).toArray
  rw [h1, h2]
  exact ⟨h3, by simp [lr]⟩
theorem vc_sub {r : RC} {lo hi : Option A1} {es a b k : Nat} {cl : List Value} (h1 : ∀ z, r.cden (lr (v + 1) (z :: l)) = cl) (hlen : cl.length = k * es) (hab : a ≤ b) (hbk : b ≤ k)
    (hlo : ∀ z, (match lo with | none => a = 0 | some x => int? (x.den (lr (v + 1) (z :: l))) = some (a : Int))) (hhi : ∀ z, (match hi with | none => b = k | some x => int? (x.den (lr (v + 1) (z :: l))) = some (b : Int))) (hv : v = n)
    (hk : VR P G cs (v + 1) (.agg ((cl.drop (a * es)).take ((b - a) * es)).toArray :: l) K) : VR P G (.sub r lo hi es v :: cs) n l K := by
  simp only [VR, Cmd.tgt]
  refine ⟨.agg ((cl.drop (a * es)).take ((b - a) * es)).toArray, hv, ⟨a, b, k, ?_, hab, hbk, ?_, ?_, ?_⟩, hk⟩
  · rw [h1]; exact hlen
  · cases lo with
    | none => exact hlo undef
    | some x => exact hlo _
  · cases hi with
    | none => exact hhi undef
    | some x => exact hhi _
  · rw [h1]; simp [lr]
theorem vc_pick {c x y : A1} {t : Bool} {r : Value} (h1 : ∀ z, c.den (lr (v + 1) (z :: l)) = Bo t) (h2 : ∀ z, (if t then x.den (lr (v + 1) (z :: l)) else y.den (lr (v + 1) (z :: l))) = r) (hv : v = n)
    (hk : VR P G cs (v + 1) (r :: l) K) : VR P G (.pick c x y v :: cs) n l K := by
  simp only [VR, Cmd.tgt]
  refine ⟨r, hv, ⟨t, by rw [h1]; rfl, ?_⟩, hk⟩
  rw [h2]; simp [lr]
theorem vc_cp {x : A1} {y : Value} (h1 : ∀ z, x.den (lr (v + 1) (z :: l)) = y) (hv : v = n) (hk : VR P G cs (v + 1) (y :: l) K) : VR P G (.cp x v :: cs) n l K := by
  simp only [VR, Cmd.tgt]
  refine ⟨y, hv, ?_, hk⟩
  show lr (v + 1) (y :: l) v = x.den _
  rw [h1]; simp [lr]
theorem vc_tostr {r : RC} {bs : List UInt8} (h1 : ∀ z, r.cden (lr (v + 1) (z :: l)) = bytesV bs) (hv : v = n) (hk : VR P G cs (v + 1) (.string ⟨bs.toArray⟩ :: l) K) : VR P G (.tostr r v :: cs) n l K := by
  simp only [VR, Cmd.tgt]
  refine ⟨.string ⟨bs.toArray⟩, hv, ⟨bs, h1 _, ?_⟩, hk⟩
  simp [lr]

/-! ### whole numbers -/
theorem wrap_i64 {x : Int} (h1 : -9223372036854775808 ≤ x) (h2 : x < 9223372036854775808) : IntKind.wrap .i64 x = x := by
  unfold IntKind.wrap; simp [IntKind.signed, IntKind.bits]; omega
theorem vc_addI {x y : Nat} (h1 : ∀ z, a.den (lr (v + 1) (z :: l)) = I x) (h2 : ∀ z, b.den (lr (v + 1) (z :: l)) = I y) (hb : x + y < 9223372036854775808) (hv : v = n)
    (hk : VR P G cs (v + 1) (I (x + y) :: l) K) : VR P G (.bin .add T a b v :: cs) n l K := by
  refine vc_bin h1 h2 hv rfl ?_
  rw [wrap_i64 (by omega) (by omega)]; exact hk
theorem vc_subI {x y : Nat} (h1 : ∀ z, a.den (lr (v + 1) (z :: l)) = I x) (h2 : ∀ z, b.den (lr (v + 1) (z :: l)) = I y) (hb : x < 9223372036854775808) (hy : y < 9223372036854775808) (hv : v = n)
    (hk : VR P G cs (v + 1) (.int .i64 ((x : Int) - y) :: l) K) : VR P G (.bin .sub T a b v :: cs) n l K := by
  refine vc_bin h1 h2 hv rfl ?_
  rw [wrap_i64 (by omega) (by omega)]; exact hk
theorem vc_mulI {x y : Nat} (h1 : ∀ z, a.den (lr (v + 1) (z :: l)) = I x) (h2 : ∀ z, b.den (lr (v + 1) (z :: l)) = I y) (hb : x * y < 9223372036854775808) (hv : v = n)
    (hk : VR P G cs (v + 1) (I (x * y) :: l) K) : VR P G (.bin .mul T a b v :: cs) n l K := by
  refine vc_bin h1 h2 hv rfl ?_
  have : (x : Int) * y = ((x * y : Nat) : Int) := by simp
  rw [this, wrap_i64 (by omega) (by omega)]; exact hk
theorem vc_quoI {x y : Nat} (h1 : ∀ z, a.den (lr (v + 1) (z :: l)) = I x) (h2 : ∀ z, b.den (lr (v + 1) (z :: l)) = I y) (hb : x < 9223372036854775808) (hy : 0 < y) (hv : v = n)
    (hk : VR P G cs (v + 1) (I (x / y) :: l) K) : VR P G (.bin .quo T a b v :: cs) n l K := by
  have hd : x / y ≤ x := Nat.div_le_self _ _
  refine vc_bin h1 h2 hv (r := I (x / y)) ?_ hk
  have hy' : ¬ ((y : Int) = 0) := by omega
  have e : (x : Int).tdiv y = ((x / y : Nat) : Int) := by rw [Int.tdiv_eq_ediv_of_nonneg (by omega)]; simp
  simp only [ibin, hy', if_false, e]
  generalize x / y = q at *
  rw [wrap_i64 (by omega) (by omega)]; rfl
theorem vc_remI {x y : Nat} (h1 : ∀ z, a.den (lr (v + 1) (z :: l)) = I x) (h2 : ∀ z, b.den (lr (v + 1) (z :: l)) = I y) (hy : 0 < y) (hv : v = n)
    (hk : VR P G cs (v + 1) (I (x % y) :: l) K) : VR P G (.bin .rem T a b v :: cs) n l K := by
  refine vc_bin h1 h2 hv (r := I (x % y)) ?_ hk
  have hy' : ¬ ((y : Int) = 0) := by omega
  have e : (x : Int).tmod y = ((x % y : Nat) : Int) := by rw [Int.tmod_eq_emod_of_nonneg (by omega)]; simp
  simp only [ibin, hy', if_false, e]; rfl
theorem vc_remU {k : IntKind} {x y : Nat} (h1 : ∀ z, a.den (lr (v + 1) (z :: l)) = IK k x) (h2 : ∀ z, b.den (lr (v + 1) (z :: l)) = IK k y) (hy : 0 < y) (hv : v = n)
    (hk : VR P G cs (v + 1) (IK k (x % y) :: l) K) : VR P G (.bin .rem T a b v :: cs) n l K := by
  refine vc_bin h1 h2 hv (r := IK k (x % y)) ?_ hk
  have hy' : ¬ ((y : Int) = 0) := by omega
  have e : (x : Int).tmod y = ((x % y : Nat) : Int) := by rw [Int.tmod_eq_emod_of_nonneg (by omega)]; simp
  simp only [ibin, hy', if_false, e]; rfl
theorem vc_cmp {op : BinOp} {k : IntKind} {x y : Nat} {t : Bool} (h1 : ∀ z, a.den (lr (v + 1) (z :: l)) = .int k (x : Int)) (h2 : ∀ z, b.den (lr (v + 1) (z :: l)) = .int k (y : Int)) (hv : v = n)
    (ht : (match op with | .eql => some (decide (x = y)) | .neq => some (!decide (x = y)) | .lss => some (decide (x < y)) | .leq => some (decide (x ≤ y)) | .gtr => some (decide (y < x)) | .geq => some (decide (y ≤ x)) | _ => none) = some t)
    (hk : VR P G cs (v + 1) (Bo t :: l) K) : VR P G (.bin op T a b v :: cs) n l K := by
  refine vc_bin h1 h2 hv (r := Bo t) ?_ hk
  have e1 : ((x : Int) == (y : Int)) = decide (x = y) := by rw [Bool.eq_iff_iff]; simp only [beq_iff_eq, decide_eq_true_eq]; omega
  have e2 : ((x : Int) != (y : Int)) = !decide (x = y) := by rw [bne, e1]
  have e3 : decide ((x : Int) < (y : Int)) = decide (x < y) := by rw [decide_eq_decide]; omega
  have e4 : decide ((x : Int) ≤ (y : Int)) = decide (x ≤ y) := by rw [decide_eq_decide]; omega
  have e5 : decide ((x : Int) > (y : Int)) = decide (y < x) := by rw [decide_eq_decide]; omega
  have e6 : decide ((x : Int) ≥ (y : Int)) = decide (y ≤ x) := by rw [decide_eq_decide]; omega
  cases op <;> simp only [Option.some.injEq, reduceCtorEq] at ht <;> subst ht <;> simp only [ibin, Bo, e1, e2, e3, e4, e5, e6]
theorem vc_and8 {x y : Nat} (h1 : ∀ z, a.den (lr (v + 1) (z :: l)) = IK .u8 x) (h2 : ∀ z, b.den (lr (v + 1) (z :: l)) = IK .u8 y) (hv : v = n) (hx : x < 256) (hy : y < 256)
    (hk : VR P G cs (v + 1) (IK .u8 (x &&& y) :: l) K) : VR P G (.bin .and T a b v :: cs) n l K := by
  refine vc_bin h1 h2 hv rfl ?_
  have e : (BitVec.ofInt (IntKind.u8).bits (x : Int) &&& BitVec.ofInt (IntKind.u8).bits (y : Int)).toNat = x &&& y := by
    show ((BitVec.ofInt 8 (x : Int)) &&& BitVec.ofInt 8 (y : Int)).toNat = x &&& y
    simp only [BitVec.ofInt_natCast, BitVec.toNat_and, BitVec.toNat_ofNat]
    rw [Nat.mod_eq_of_lt hx, Nat.mod_eq_of_lt hy]
  have hlt : x &&& y < 256 := Nat.lt_of_le_of_lt Nat.and_le_left hx
  rw [e, wrap_u8, Nat.mod_eq_of_lt hlt]; exact hk
theorem vc_or8 {x y : Nat} (h1 : ∀ z, a.den (lr (v + 1) (z :: l)) = IK .u8 x) (h2 : ∀ z, b.den (lr (v + 1) (z :: l)) = IK .u8 y) (hv : v = n) (hx : x < 256) (hy : y < 256)
    (hk : VR P G cs (v + 1) (IK .u8 (x ||| y) :: l) K) : VR P G (.bin .or T a b v :: cs) n l K := by
  refine vc_bin h1 h2 hv rfl ?_
  have e : (BitVec.ofInt (IntKind.u8).bits (x : Int) ||| BitVec.ofInt (IntKind.u8).bits (y : Int)).toNat = x ||| y := by
    show ((BitVec.ofInt 8 (x : Int)) ||| BitVec.ofInt 8 (y : Int)).toNat = x ||| y
    simp only [BitVec.ofInt_natCast, BitVec.toNat_or, BitVec.toNat_ofNat]
    rw [Nat.mod_eq_of_lt hx, Nat.mod_eq_of_lt hy]
  have hlt : x ||| y < 256 := Nat.or_lt_two_pow (n := 8) hx hy
  rw [e, wrap_u8, Nat.mod_eq_of_lt hlt]; exact hk
theorem vc_shl8 {x y : Nat} {k' : IntKind} (h1 : ∀ z, a.den (lr (v + 1) (z :: l)) = IK .u8 x) (h2 : ∀ z, b.den (lr (v + 1) (z :: l)) = .int k' (y : Int)) (hv : v = n) (hy : y ≤ 8)
    (hk : VR P G cs (v + 1) (IK .u8 (x * 2 ^ y % 256) :: l) K) : VR P G (.bin .shl T a b v :: cs) n l K := by
  refine vc_shift h1 h2 hv (r := IK .u8 (x * 2 ^ y % 256)) ?_ hk
  have : ¬ ((y : Int) < 0) := by omega
  simp only [ishift, this, if_false, Int.toNat_natCast]
  rw [show min y (IntKind.u8).bits = y from Nat.min_eq_left hy]
  have e : ((x : Int) * 2 ^ y) = ((x * 2 ^ y : Nat) : Int) := by simp
  rw [e, wrap_u8]; rfl
theorem vc_shr8 {x y : Nat} {k' : IntKind} (h1 : ∀ z, a.den (lr (v + 1) (z :: l)) = IK .u8 x) (h2 : ∀ z, b.den (lr (v + 1) (z :: l)) = .int k' (y : Int)) (hv : v = n) (hy : y ≤ 8)
    (hk : VR P G cs (v + 1) (IK .u8 (x / 2 ^ y) :: l) K) : VR P G (.bin .shr T a b v :: cs) n l K := by
  refine vc_shift h1 h2 hv (r := IK .u8 (x / 2 ^ y)) ?_ hk
  have : ¬ ((y : Int) < 0) := by omega
  simp only [ishift, this, if_false, Int.toNat_natCast]
  rw [show min y (IntKind.u8).bits = y from Nat.min_eq_left hy, shr_nat]; rfl
end

theorem add_fact (x y c : Nat) (hx : x < 18446744073709551616) (hy : y < 18446744073709551616) (hc : c ≤ 1) :
    (x + y + c) % 18446744073709551616 + 18446744073709551616 * ((x + y + c) / 18446744073709551616) = x + y + c ∧ (x + y + c) % 18446744073709551616 < 18446744073709551616 ∧ (x + y + c) / 18446744073709551616 ≤ 1 := by omega
theorem sub_fact (x y b : Nat) (hx : x < 18446744073709551616) (hy : y < 18446744073709551616) (hb : b ≤ 1) :
    (x + 18446744073709551616 - y - b) % 18446744073709551616 + y + b = x + 18446744073709551616 * (if x < y + b then 1 else 0) ∧ (x + 18446744073709551616 - y - b) % 18446744073709551616 < 18446744073709551616 ∧ (if x < y + b then 1 else 0) ≤ 1 := by
  split <;> omega
theorem mul_fact (x y : Nat) (hx : x < 18446744073709551616) (hy : y < 18446744073709551616) :
    x * y % 18446744073709551616 + 18446744073709551616 * (x * y / 18446744073709551616) = x * y ∧ x * y % 18446744073709551616 < 18446744073709551616 ∧ x * y / 18446744073709551616 ≤ 18446744073709551614 := by
  have : x * y ≤ 18446744073709551615 * 18446744073709551615 := Nat.mul_le_mul (by omega) (by omega)
  omega
end Go.Sx

/-
  Pieces of code, by place; numbers in slices.
-/
namespace Go.Sx
def seqA : Code → Code
  | .seq a _ => a
  | c => c
def seqB : Code → Code
  | .seq _ b => b
  | c => c
def isSeq : Code → Bool
  | .seq _ _ => true
  | _ => false
section
variable {P : Program} {G : Glb} {C : Cfg} {X : Cx P G C} {Q : Exit → Act → World → Prop} {S : St} {k : List It} {l : List Value}
theorem Jd.cutc {c : Code} (hc : isSeq c = true) (h : Jd X (wpK P Q (.c (seqB c) :: k)) S [.c (seqA c)] .nor l) : Jd X Q S (.c c :: k) .nor l := by
  cases c <;> first | (cases hc; done) | skip
  exact Jd.cut h
end
theorem Ctr.imp {P : Program} {G : Glb} {f : Nat} {fs : FS} {Φ Φ' : List Value → Value → Prop} (h : Ctr P G f fs Φ) (hi : ∀ ds r, Φ' ds r → Φ ds r) : Ctr P G f fs Φ' :=
  fun w A vs ds r hG hA hΦ => h w A vs ds r hG hA (hi ds r hΦ)
end Go.Sx
