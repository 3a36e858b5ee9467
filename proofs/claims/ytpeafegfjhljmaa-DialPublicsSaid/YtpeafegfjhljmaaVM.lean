/- The field of the curve, its group law, roots, the base point. -/
namespace Ed
/-- pigeonhole -/
theorem inj_surj : ∀ (n : Nat) (f : Nat → Nat), (∀ i, i < n → f i < n) → (∀ i j, i < n → j < n → f i = f j → i = j) → ∀ y, y < n → ∃ i, i < n ∧ f i = y := by
  intro n
  induction n with
  | zero => intro f _ _ y hy; omega
  | succ n ih =>
    intro f hf hi y hy
    -- let m = f n; swap values m and n
    let g : Nat → Nat := fun i => if f i = n then f n else f i
    have hg : ∀ i, i < n → g i < n := by
      intro i hin
      simp only [g]
      split
      · rename_i h
        have h1 := hf n (by omega)
        have h2 : f n ≠ n := by
          intro h3
          have := hi i n (by omega) (by omega) (by rw [h, h3])
          omega
        omega
      · rename_i h
        have := hf i (by omega)
        omega
    have hgi : ∀ i j, i < n → j < n → g i = g j → i = j := by
      intro i j hi' hj' h
      simp only [g] at h
      split at h <;> split at h
      · rename_i a b; exact hi i j (by omega) (by omega) (by rw [a, b])
      · have := hi n j (by omega) (by omega) h; omega
      · have := hi i n (by omega) (by omega) h; omega
      · exact hi i j (by omega) (by omega) h
    by_cases hyn : f n = y
    · exact ⟨n, by omega, hyn⟩
    · by_cases hy2 : y = n
      · subst hy2
        -- f n < y ; find i with g i = f n
        have h1 := hf y (by omega)
        obtain ⟨i, hi1, hi2⟩ := ih g hg hgi (f y) (by omega)
        simp only [g] at hi2
        split at hi2
        · rename_i h; exact ⟨i, by omega, h⟩
        · have := hi i y (by omega) (by omega) hi2; omega
      · obtain ⟨i, hi1, hi2⟩ := ih g hg hgi y (by omega)
        simp only [g] at hi2
        split at hi2
        · exact absurd hi2 hyn
        · exact ⟨i, by omega, hi2⟩

def Pr (n : Nat) : Prop := 2 ≤ n ∧ ∀ d, d ∣ n → d = 1 ∨ d = n

theorem exists_prime_dvd : ∀ n : Nat, 2 ≤ n → ∃ q, Pr q ∧ q ∣ n := by
  intro n
  induction n using Nat.strongRecOn with
  | _ n ih =>
    intro h
    by_cases hp : Pr n
    · exact ⟨n, hp, Nat.dvd_refl n⟩
    · have : ∃ d, d ∣ n ∧ d ≠ 1 ∧ d ≠ n := by
        apply Classical.byContradiction
        intro hn
        refine hp ⟨h, fun d hd => ?_⟩
        apply Classical.byContradiction
        intro h2
        exact hn ⟨d, hd, fun h3 => h2 (.inl h3), fun h3 => h2 (.inr h3)⟩
      obtain ⟨d, hd, h1, h2⟩ := this
      have hle := Nat.le_of_dvd (by omega) hd
      have h0 : d ≠ 0 := by rintro rfl; have := Nat.eq_zero_of_zero_dvd hd; omega
      obtain ⟨q, hq, hqd⟩ := ih d (by omega) (by omega)
      exact ⟨q, hq, Nat.dvd_trans hqd hd⟩

theorem Pr.dvd_mul {p a b : Nat} (hp : Pr p) (h : p ∣ a * b) : p ∣ a ∨ p ∣ b := by
  rcases hp.2 (Nat.gcd p a) (Nat.gcd_dvd_left p a) with h1 | h1
  · right; exact Nat.Coprime.dvd_of_dvd_mul_left (Nat.coprime_iff_gcd_eq_one.2 h1) h
  · left; have := Nat.gcd_dvd_right p a; rwa [h1] at this

theorem Pr.dvd_pow {p a : Nat} (hp : Pr p) : ∀ k, p ∣ a ^ k → p ∣ a := by
  intro k
  induction k with
  | zero => intro h; have h1 := Nat.le_of_dvd (by simp) h; have h2 := hp.1; rw [Nat.pow_zero] at h1; omega
  | succ k ih => intro h; rw [Nat.pow_succ] at h; rcases hp.dvd_mul h with h | h; exact ih h; exact h

theorem Pr.eq_of_dvd {p q : Nat} (hp : Pr p) (hq : Pr q) (h : p ∣ q) : p = q := by
  rcases hq.2 p h with h | h
  · have := hp.1; omega
  · exact h

def prodP : List (Nat × Nat) → Nat
  | [] => 1
  | (q, e) :: r => q ^ e * prodP r

theorem dvd_prodP {p : Nat} (hp : Pr p) : ∀ l : List (Nat × Nat), (∀ x ∈ l, Pr x.1) → p ∣ prodP l → ∃ x ∈ l, x.1 = p := by
  intro l
  induction l with
  | nil => intro _ h; have := Nat.le_of_dvd (by simp [prodP]) h; have := hp.1; simp [prodP] at *; omega
  | cons x r ih =>
    intro hl h
    rcases hp.dvd_mul h with h | h
    · exact ⟨x, by simp, (hp.eq_of_dvd (hl x (by simp)) (hp.dvd_pow _ h)).symm⟩
    · obtain ⟨y, hy, e⟩ := ih (fun y hy => hl y (by simp [hy])) h
      exact ⟨y, by simp [hy], e⟩

/-- the powers of a residue that is 1 at some power -/
theorem pow_mod_mul_one {n g m : Nat} (h : g ^ m % n = 1 % n) (k : Nat) : g ^ (m * k) % n = 1 % n := by
  rw [Nat.pow_mul, Nat.pow_mod, h, ← Nat.pow_mod, Nat.one_pow]

theorem pow_mod_add {n g m : Nat} (h : g ^ m % n = 1 % n) (r : Nat) : g ^ (m + r) % n = g ^ r % n := by
  rw [Nat.pow_add, Nat.mul_mod, h, ← Nat.mul_mod, Nat.one_mul]

theorem order_exists {n g k : Nat} (hk : 0 < k) (h : g ^ k % n = 1 % n) : ∃ m, 0 < m ∧ g ^ m % n = 1 % n ∧ ∀ j, 0 < j → g ^ j % n = 1 % n → m ≤ j := by
  induction k using Nat.strongRecOn with
  | _ k ih =>
    by_cases hc : ∃ j, 0 < j ∧ j < k ∧ g ^ j % n = 1 % n
    · obtain ⟨j, h1, h2, h3⟩ := hc
      exact ih j h2 h1 h3
    · refine ⟨k, hk, h, fun j hj h2 => ?_⟩
      apply Classical.byContradiction
      intro h3
      exact hc ⟨j, hj, by omega, h2⟩

theorem order_dvd {n g m : Nat} (hm : 0 < m) (h : g ^ m % n = 1 % n) (hmin : ∀ j, 0 < j → g ^ j % n = 1 % n → m ≤ j) (k : Nat) (hk : g ^ k % n = 1 % n) : m ∣ k := by
  have e := Nat.div_add_mod k m
  rw [← e, pow_mod_add (pow_mod_mul_one h _)] at hk
  apply Nat.dvd_of_mod_eq_zero
  apply Classical.byContradiction
  intro h0
  have := hmin _ (by omega) hk
  have := Nat.mod_lt k hm
  omega

theorem pratt_order {n g : Nat} {l : List (Nat × Nat)} (hn : 2 ≤ n) (hl : ∀ x ∈ l, Pr x.1) (hp : prodP l = n - 1) (h1 : g ^ (n - 1) % n = 1 % n)
    (hq : ∀ x ∈ l, g ^ ((n - 1) / x.1) % n ≠ 1 % n) (k : Nat) (hk : g ^ k % n = 1 % n) : n - 1 ∣ k := by
  obtain ⟨m, hm, hm1, hmin⟩ := order_exists (by omega) h1
  have hd := order_dvd hm hm1 hmin (n - 1) h1
  have : m = n - 1 := by
    obtain ⟨c, hc⟩ := hd
    by_cases hc1 : c = 1
    · rw [hc, hc1, Nat.mul_one]
    · have hc0 : c ≠ 0 := by rintro rfl; simp at hc; omega
      obtain ⟨q, hqp, hqc⟩ := exists_prime_dvd c (by omega)
      have : q ∣ prodP l := by rw [hp, hc]; exact Nat.dvd_trans hqc (Nat.dvd_mul_left c m)
      obtain ⟨x, hx, hxq⟩ := dvd_prodP hqp l hl this
      obtain ⟨t, ht⟩ := hqc
      have := hq x hx
      rw [hxq, hc, ht, show m * (q * t) = q * (m * t) by rw [Nat.mul_left_comm], Nat.mul_div_cancel_left _ (by have := hqp.1; omega)] at this
      exact absurd (pow_mod_mul_one hm1 t) this
  rw [← this]
  exact order_dvd hm hm1 hmin k hk

theorem unit_of_pow {n g : Nat} (hn : 2 ≤ n) {k : Nat} (hk : 0 < k) (h1 : g ^ k % n = 1 % n) (i : Nat) : g ^ i % n ≠ 0 := by
  intro h
  have : g ^ (i * k) % n = 1 % n := by
    rw [Nat.mul_comm]; exact pow_mod_mul_one h1 i
  obtain ⟨j, rfl⟩ : ∃ j, k = j + 1 := ⟨k - 1, by omega⟩
  rw [Nat.mul_succ, Nat.pow_add, Nat.mul_mod, h, Nat.mul_zero, Nat.zero_mod, Nat.mod_eq_of_lt (by omega)] at this
  omega

theorem pow_inj {n g : Nat} (hn : 2 ≤ n) (h1 : g ^ (n - 1) % n = 1 % n) (ho : ∀ k, g ^ k % n = 1 % n → n - 1 ∣ k) :
    ∀ i j, i < n - 1 → j < n - 1 → i ≤ j → g ^ i % n = g ^ j % n → i = j := by
  intro i j hi hj hij h
  -- multiply by g^(n-1-i)
  have : g ^ (j - i) % n = 1 % n := by
    have e1 : g ^ (n - 1 - i) * g ^ i % n = g ^ (n - 1 - i) * g ^ j % n := by rw [Nat.mul_mod, h, ← Nat.mul_mod]
    rw [← Nat.pow_add, ← Nat.pow_add, show n - 1 - i + i = n - 1 by omega, show n - 1 - i + j = (n - 1) + (j - i) by omega, pow_mod_add h1, h1] at e1
    exact e1.symm
  have := ho _ this
  have := Nat.eq_zero_of_dvd_of_lt this (by omega)
  omega

theorem pow_surj {n g : Nat} (hn : 2 ≤ n) (h1 : g ^ (n - 1) % n = 1 % n) (ho : ∀ k, g ^ k % n = 1 % n → n - 1 ∣ k) :
    ∀ y, 0 < y → y < n → ∃ i, i < n - 1 ∧ g ^ i % n = y := by
  intro y hy hyn
  have hu := fun i => unit_of_pow hn (by omega : 0 < n - 1) h1 i
  obtain ⟨i, hi, he⟩ := inj_surj (n - 1) (fun i => g ^ i % n - 1) (fun i _ => by have := Nat.mod_lt (g ^ i) (by omega : 0 < n); have := hu i; omega)
    (fun i j hi hj h => by
      have a := hu i; have b := hu j
      rcases Nat.le_total i j with hij | hij
      · exact pow_inj hn h1 ho i j hi hj hij (by omega)
      · exact (pow_inj hn h1 ho j i hj hi hij (by omega)).symm) (y - 1) (by omega)
  exact ⟨i, hi, by have := hu i; omega⟩

theorem pratt {n g : Nat} {l : List (Nat × Nat)} (hn : 2 ≤ n) (hl : ∀ x ∈ l, Pr x.1) (hp : prodP l = n - 1) (h1 : g ^ (n - 1) % n = 1 % n)
    (hq : ∀ x ∈ l, g ^ ((n - 1) / x.1) % n ≠ 1 % n) : Pr n := by
  have ho := pratt_order hn hl hp h1 hq
  refine ⟨hn, fun d hd => ?_⟩
  apply Classical.byContradiction
  intro h
  have hle := Nat.le_of_dvd (by omega) hd
  have h0 : d ≠ 0 := by rintro rfl; have := Nat.eq_zero_of_zero_dvd hd; omega
  obtain ⟨i, hi, he⟩ := pow_surj hn h1 ho d (by omega) (by omega)
  have e : g ^ (n - 1 - i) * d % n = 1 % n := by
    rw [← he, Nat.mul_mod, Nat.mod_mod, ← Nat.mul_mod, ← Nat.pow_add, show n - 1 - i + i = n - 1 by omega, h1]
  have h2 : d ∣ 1 := by
    have a := Nat.div_add_mod (g ^ (n - 1 - i) * d) n
    rw [e, Nat.mod_eq_of_lt (by omega : 1 < n)] at a
    have b : d ∣ n * (g ^ (n - 1 - i) * d / n) := Nat.dvd_trans hd (Nat.dvd_mul_right _ _)
    have c : d ∣ g ^ (n - 1 - i) * d := Nat.dvd_mul_left _ _
    rw [← a] at c
    exact (Nat.dvd_add_right b).1 c
  have := Nat.le_of_dvd (by omega) h2
  omega

/-- a power, modulo: by squares -/
def pm (n : Nat) : Nat → Nat → Nat → Nat
  | 0, _, _ => 1 % n
  | f + 1, b, e => if e % 2 = 1 then pm n f (b * b % n) (e / 2) * b % n else pm n f (b * b % n) (e / 2)

theorem pm_eq (n : Nat) : ∀ f b e, e < 2 ^ f → pm n f b e = b ^ e % n := by
  intro f
  induction f with
  | zero => intro b e h; have : e = 0 := by simp at h; omega
            subst this; simp [pm]
  | succ f ih =>
    intro b e h
    have h2 : e / 2 < 2 ^ f := by rw [Nat.pow_succ] at h; omega
    have e1 : (b * b) ^ (e / 2) = b ^ (2 * (e / 2)) := by rw [Nat.pow_mul, Nat.pow_two]
    simp only [pm, ih _ _ h2]
    split
    · rename_i hc
      rw [← Nat.pow_mod, e1, Nat.mul_mod, Nat.mod_mod, ← Nat.mul_mod, ← Nat.pow_succ]
      congr 2; omega
    · rename_i hc
      rw [← Nat.pow_mod, e1]
      congr 2; omega

def prattOk (n g : Nat) (l : List (Nat × Nat)) : Bool :=
  2 ≤ n && prodP l == n - 1 && pm n 256 g (n - 1) == 1 % n && n < 2 ^ 256 && l.all fun x => pm n 256 g ((n - 1) / x.1) != 1 % n

theorem pratt_of {n g : Nat} {l : List (Nat × Nat)} (h : prattOk n g l = true) (hl : ∀ x ∈ l, Pr x.1) : Pr n := by
  simp only [prattOk, Bool.and_eq_true, decide_eq_true_eq, beq_iff_eq, List.all_eq_true, bne_iff_ne] at h
  obtain ⟨⟨⟨⟨h1, h2⟩, h3⟩, h4⟩, h5⟩ := h
  rw [pm_eq _ _ _ _ (by omega)] at h3
  refine pratt h1 hl h2 h3 fun x hx => ?_
  have := h5 x hx
  rwa [pm_eq _ _ _ _ (Nat.lt_of_le_of_lt (Nat.div_le_self _ _) (by omega))] at this

theorem pr2 : Pr 2 := ⟨by omega, fun d hd => by have := Nat.le_of_dvd (by omega) hd; have : d ≠ 0 := by rintro rfl; simp at hd
                                                omega⟩
theorem pr3 : Pr 3 := pratt_of (g := 2) (l := [(2, 1)]) (by decide +kernel) (by simp only [List.forall_mem_cons]; exact ⟨pr2, by simp⟩)
theorem pr17 : Pr 17 := pratt_of (g := 3) (l := [(2, 4)]) (by decide +kernel) (by simp only [List.forall_mem_cons]; exact ⟨pr2, by simp⟩)
theorem pr7 : Pr 7 := pratt_of (g := 3) (l := [(2, 1), (3, 1)]) (by decide +kernel) (by simp only [List.forall_mem_cons]; exact ⟨pr2, pr3, by simp⟩)
theorem pr239 : Pr 239 := pratt_of (g := 7) (l := [(2, 1), (7, 1), (17, 1)]) (by decide +kernel) (by simp only [List.forall_mem_cons]; exact ⟨pr2, pr7, pr17, by simp⟩)
theorem pr479 : Pr 479 := pratt_of (g := 13) (l := [(2, 1), (239, 1)]) (by decide +kernel) (by simp only [List.forall_mem_cons]; exact ⟨pr2, pr239, by simp⟩)
theorem pr32573 : Pr 32573 := pratt_of (g := 2) (l := [(2, 2), (17, 1), (479, 1)]) (by decide +kernel) (by simp only [List.forall_mem_cons]; exact ⟨pr2, pr17, pr479, by simp⟩)
theorem pr65147 : Pr 65147 := pratt_of (g := 2) (l := [(2, 1), (32573, 1)]) (by decide +kernel) (by simp only [List.forall_mem_cons]; exact ⟨pr2, pr32573, by simp⟩)
theorem pr5 : Pr 5 := pratt_of (g := 2) (l := [(2, 2)]) (by decide +kernel) (by simp only [List.forall_mem_cons]; exact ⟨pr2, by simp⟩)
theorem pr11 : Pr 11 := pratt_of (g := 2) (l := [(2, 1), (5, 1)]) (by decide +kernel) (by simp only [List.forall_mem_cons]; exact ⟨pr2, pr5, by simp⟩)
theorem pr353 : Pr 353 := pratt_of (g := 3) (l := [(2, 5), (11, 1)]) (by decide +kernel) (by simp only [List.forall_mem_cons]; exact ⟨pr2, pr11, by simp⟩)
theorem pr29 : Pr 29 := pratt_of (g := 2) (l := [(2, 2), (7, 1)]) (by decide +kernel) (by simp only [List.forall_mem_cons]; exact ⟨pr2, pr7, by simp⟩)
theorem pr59 : Pr 59 := pratt_of (g := 2) (l := [(2, 1), (29, 1)]) (by decide +kernel) (by simp only [List.forall_mem_cons]; exact ⟨pr2, pr29, by simp⟩)
theorem pr487 : Pr 487 := pratt_of (g := 3) (l := [(2, 1), (3, 5)]) (by decide +kernel) (by simp only [List.forall_mem_cons]; exact ⟨pr2, pr3, by simp⟩)
theorem pr57467 : Pr 57467 := pratt_of (g := 2) (l := [(2, 1), (59, 1), (487, 1)]) (by decide +kernel) (by simp only [List.forall_mem_cons]; exact ⟨pr2, pr59, pr487, by simp⟩)
theorem pr13 : Pr 13 := pratt_of (g := 2) (l := [(2, 2), (3, 1)]) (by decide +kernel) (by simp only [List.forall_mem_cons]; exact ⟨pr2, pr3, by simp⟩)
theorem pr131 : Pr 131 := pratt_of (g := 2) (l := [(2, 1), (5, 1), (13, 1)]) (by decide +kernel) (by simp only [List.forall_mem_cons]; exact ⟨pr2, pr5, pr13, by simp⟩)
theorem pr132049 : Pr 132049 := pratt_of (g := 26) (l := [(2, 4), (3, 2), (7, 1), (131, 1)]) (by decide +kernel) (by simp only [List.forall_mem_cons]; exact ⟨pr2, pr3, pr7, pr131, by simp⟩)
theorem pr43 : Pr 43 := pratt_of (g := 3) (l := [(2, 1), (3, 1), (7, 1)]) (by decide +kernel) (by simp only [List.forall_mem_cons]; exact ⟨pr2, pr3, pr7, by simp⟩)
theorem pr23 : Pr 23 := pratt_of (g := 5) (l := [(2, 1), (11, 1)]) (by decide +kernel) (by simp only [List.forall_mem_cons]; exact ⟨pr2, pr11, by simp⟩)
theorem pr3727 : Pr 3727 := pratt_of (g := 3) (l := [(2, 1), (3, 4), (23, 1)]) (by decide +kernel) (by simp only [List.forall_mem_cons]; exact ⟨pr2, pr3, pr23, by simp⟩)
theorem pr1923133 : Pr 1923133 := pratt_of (g := 2) (l := [(2, 2), (3, 1), (43, 1), (3727, 1)]) (by decide +kernel) (by simp only [List.forall_mem_cons]; exact ⟨pr2, pr3, pr43, pr3727, by simp⟩)
theorem pr31 : Pr 31 := pratt_of (g := 3) (l := [(2, 1), (3, 1), (5, 1)]) (by decide +kernel) (by simp only [List.forall_mem_cons]; exact ⟨pr2, pr3, pr5, by simp⟩)
theorem pr53 : Pr 53 := pratt_of (g := 2) (l := [(2, 2), (13, 1)]) (by decide +kernel) (by simp only [List.forall_mem_cons]; exact ⟨pr2, pr13, by simp⟩)
theorem pr107 : Pr 107 := pratt_of (g := 2) (l := [(2, 1), (53, 1)]) (by decide +kernel) (by simp only [List.forall_mem_cons]; exact ⟨pr2, pr53, by simp⟩)
theorem pr37 : Pr 37 := pratt_of (g := 2) (l := [(2, 2), (3, 2)]) (by decide +kernel) (by simp only [List.forall_mem_cons]; exact ⟨pr2, pr3, by simp⟩)
theorem pr223 : Pr 223 := pratt_of (g := 3) (l := [(2, 1), (3, 1), (37, 1)]) (by decide +kernel) (by simp only [List.forall_mem_cons]; exact ⟨pr2, pr3, pr37, by simp⟩)
theorem pr173 : Pr 173 := pratt_of (g := 2) (l := [(2, 2), (43, 1)]) (by decide +kernel) (by simp only [List.forall_mem_cons]; exact ⟨pr2, pr43, by simp⟩)
theorem pr4153 : Pr 4153 := pratt_of (g := 5) (l := [(2, 3), (3, 1), (173, 1)]) (by decide +kernel) (by simp only [List.forall_mem_cons]; exact ⟨pr2, pr3, pr173, by simp⟩)
theorem pr41 : Pr 41 := pratt_of (g := 6) (l := [(2, 3), (5, 1)]) (by decide +kernel) (by simp only [List.forall_mem_cons]; exact ⟨pr2, pr5, by simp⟩)
theorem pr1723 : Pr 1723 := pratt_of (g := 3) (l := [(2, 1), (3, 1), (7, 1), (41, 1)]) (by decide +kernel) (by simp only [List.forall_mem_cons]; exact ⟨pr2, pr3, pr7, pr41, by simp⟩)
theorem pr430751 : Pr 430751 := pratt_of (g := 17) (l := [(2, 1), (5, 3), (1723, 1)]) (by decide +kernel) (by simp only [List.forall_mem_cons]; exact ⟨pr2, pr5, pr1723, by simp⟩)
theorem pr31757755568855353 : Pr 31757755568855353 := pratt_of (g := 10) (l := [(2, 3), (3, 1), (31, 1), (107, 1), (223, 1), (4153, 1), (430751, 1)]) (by decide +kernel) (by simp only [List.forall_mem_cons]; exact ⟨pr2, pr3, pr31, pr107, pr223, pr4153, pr430751, by simp⟩)
theorem pr19 : Pr 19 := pratt_of (g := 2) (l := [(2, 1), (3, 2)]) (by decide +kernel) (by simp only [List.forall_mem_cons]; exact ⟨pr2, pr3, by simp⟩)
theorem pr83 : Pr 83 := pratt_of (g := 2) (l := [(2, 1), (41, 1)]) (by decide +kernel) (by simp only [List.forall_mem_cons]; exact ⟨pr2, pr41, by simp⟩)
theorem pr9463 : Pr 9463 := pratt_of (g := 3) (l := [(2, 1), (3, 1), (19, 1), (83, 1)]) (by decide +kernel) (by simp only [List.forall_mem_cons]; exact ⟨pr2, pr3, pr19, pr83, by simp⟩)
theorem pr37853 : Pr 37853 := pratt_of (g := 2) (l := [(2, 2), (9463, 1)]) (by decide +kernel) (by simp only [List.forall_mem_cons]; exact ⟨pr2, pr9463, by simp⟩)
theorem pr75707 : Pr 75707 := pratt_of (g := 2) (l := [(2, 1), (37853, 1)]) (by decide +kernel) (by simp only [List.forall_mem_cons]; exact ⟨pr2, pr37853, by simp⟩)
theorem pr2437 : Pr 2437 := pratt_of (g := 2) (l := [(2, 2), (3, 1), (7, 1), (29, 1)]) (by decide +kernel) (by simp only [List.forall_mem_cons]; exact ⟨pr2, pr3, pr7, pr29, by simp⟩)
theorem pr97 : Pr 97 := pratt_of (g := 5) (l := [(2, 5), (3, 1)]) (by decide +kernel) (by simp only [List.forall_mem_cons]; exact ⟨pr2, pr3, by simp⟩)
theorem pr419 : Pr 419 := pratt_of (g := 2) (l := [(2, 1), (11, 1), (19, 1)]) (by decide +kernel) (by simp only [List.forall_mem_cons]; exact ⟨pr2, pr11, pr19, by simp⟩)
theorem pr569003 : Pr 569003 := pratt_of (g := 2) (l := [(2, 1), (7, 1), (97, 1), (419, 1)]) (by decide +kernel) (by simp only [List.forall_mem_cons]; exact ⟨pr2, pr7, pr97, pr419, by simp⟩)
theorem pr2773320623 : Pr 2773320623 := pratt_of (g := 5) (l := [(2, 1), (2437, 1), (569003, 1)]) (by decide +kernel) (by simp only [List.forall_mem_cons]; exact ⟨pr2, pr2437, pr569003, by simp⟩)
theorem pr72106336199 : Pr 72106336199 := pratt_of (g := 7) (l := [(2, 1), (13, 1), (2773320623, 1)]) (by decide +kernel) (by simp only [List.forall_mem_cons]; exact ⟨pr2, pr13, pr2773320623, by simp⟩)
theorem pr47 : Pr 47 := pratt_of (g := 5) (l := [(2, 1), (23, 1)]) (by decide +kernel) (by simp only [List.forall_mem_cons]; exact ⟨pr2, pr23, by simp⟩)
theorem pr127 : Pr 127 := pratt_of (g := 3) (l := [(2, 1), (3, 2), (7, 1)]) (by decide +kernel) (by simp only [List.forall_mem_cons]; exact ⟨pr2, pr3, pr7, by simp⟩)
theorem pr103 : Pr 103 := pratt_of (g := 5) (l := [(2, 1), (3, 1), (17, 1)]) (by decide +kernel) (by simp only [List.forall_mem_cons]; exact ⟨pr2, pr3, pr17, by simp⟩)
theorem pr991 : Pr 991 := pratt_of (g := 6) (l := [(2, 1), (3, 2), (5, 1), (11, 1)]) (by decide +kernel) (by simp only [List.forall_mem_cons]; exact ⟨pr2, pr3, pr5, pr11, by simp⟩)
theorem pr8574133 : Pr 8574133 := pratt_of (g := 2) (l := [(2, 2), (3, 1), (7, 1), (103, 1), (991, 1)]) (by decide +kernel) (by simp only [List.forall_mem_cons]; exact ⟨pr2, pr3, pr7, pr103, pr991, by simp⟩)
theorem pr1919519569386763 : Pr 1919519569386763 := pratt_of (g := 2) (l := [(2, 1), (3, 1), (7, 1), (19, 1), (47, 2), (127, 1), (8574133, 1)]) (by decide +kernel) (by simp only [List.forall_mem_cons]; exact ⟨pr2, pr3, pr7, pr19, pr47, pr127, pr8574133, by simp⟩)
theorem pr75445702479781427272750846543864801 : Pr 75445702479781427272750846543864801 := pratt_of (g := 7) (l := [(2, 5), (3, 2), (5, 2), (75707, 1), (72106336199, 1), (1919519569386763, 1)]) (by decide +kernel) (by simp only [List.forall_mem_cons]; exact ⟨pr2, pr3, pr5, pr75707, pr72106336199, pr1919519569386763, by simp⟩)
theorem pr74058212732561358302231226437062788676166966415465897661863160754340907 : Pr 74058212732561358302231226437062788676166966415465897661863160754340907 := pratt_of (g := 2) (l := [(2, 1), (3, 1), (353, 1), (57467, 1), (132049, 1), (1923133, 1), (31757755568855353, 1), (75445702479781427272750846543864801, 1)]) (by decide +kernel) (by simp only [List.forall_mem_cons]; exact ⟨pr2, pr3, pr353, pr57467, pr132049, pr1923133, pr31757755568855353, pr75445702479781427272750846543864801, by simp⟩)
theorem pr57896044618658097711785492504343953926634992332820282019728792003956564819949 : Pr 57896044618658097711785492504343953926634992332820282019728792003956564819949 := pratt_of (g := 2) (l := [(2, 2), (3, 1), (65147, 1), (74058212732561358302231226437062788676166966415465897661863160754340907, 1)]) (by decide +kernel) (by simp only [List.forall_mem_cons]; exact ⟨pr2, pr3, pr65147, pr74058212732561358302231226437062788676166966415465897661863160754340907, by simp⟩)

theorem pr34123 : Pr 34123 := pratt_of (g := 2) (l := [(2, 1), (3, 1), (11, 2), (47, 1)]) (by decide +kernel) (by simp only [List.forall_mem_cons]; exact ⟨pr2, pr3, pr11, pr47, by simp⟩)
theorem pr409477 : Pr 409477 := pratt_of (g := 2) (l := [(2, 2), (3, 1), (34123, 1)]) (by decide +kernel) (by simp only [List.forall_mem_cons]; exact ⟨pr2, pr3, pr34123, by simp⟩)
theorem pr14741173 : Pr 14741173 := pratt_of (g := 2) (l := [(2, 2), (3, 2), (409477, 1)]) (by decide +kernel) (by simp only [List.forall_mem_cons]; exact ⟨pr2, pr3, pr409477, by simp⟩)
theorem pr58964693 : Pr 58964693 := pratt_of (g := 2) (l := [(2, 2), (14741173, 1)]) (by decide +kernel) (by simp only [List.forall_mem_cons]; exact ⟨pr2, pr14741173, by simp⟩)
theorem pr30703 : Pr 30703 := pratt_of (g := 3) (l := [(2, 1), (3, 1), (7, 1), (17, 1), (43, 1)]) (by decide +kernel) (by simp only [List.forall_mem_cons]; exact ⟨pr2, pr3, pr7, pr17, pr43, by simp⟩)
theorem pr79 : Pr 79 := pratt_of (g := 3) (l := [(2, 1), (3, 1), (13, 1)]) (by decide +kernel) (by simp only [List.forall_mem_cons]; exact ⟨pr2, pr3, pr13, by simp⟩)
theorem pr41081 : Pr 41081 := pratt_of (g := 3) (l := [(2, 3), (5, 1), (13, 1), (79, 1)]) (by decide +kernel) (by simp only [List.forall_mem_cons]; exact ⟨pr2, pr5, pr13, pr79, by simp⟩)
theorem pr82163 : Pr 82163 := pratt_of (g := 2) (l := [(2, 1), (41081, 1)]) (by decide +kernel) (by simp only [List.forall_mem_cons]; exact ⟨pr2, pr41081, by simp⟩)
theorem pr67 : Pr 67 := pratt_of (g := 2) (l := [(2, 1), (3, 1), (11, 1)]) (by decide +kernel) (by simp only [List.forall_mem_cons]; exact ⟨pr2, pr3, pr11, by simp⟩)
theorem pr22111 : Pr 22111 := pratt_of (g := 6) (l := [(2, 1), (3, 1), (5, 1), (11, 1), (67, 1)]) (by decide +kernel) (by simp only [List.forall_mem_cons]; exact ⟨pr2, pr3, pr5, pr11, pr67, by simp⟩)
theorem pr132667 : Pr 132667 := pratt_of (g := 5) (l := [(2, 1), (3, 1), (22111, 1)]) (by decide +kernel) (by simp only [List.forall_mem_cons]; exact ⟨pr2, pr3, pr22111, by simp⟩)
theorem pr17231 : Pr 17231 := pratt_of (g := 13) (l := [(2, 1), (5, 1), (1723, 1)]) (by decide +kernel) (by simp only [List.forall_mem_cons]; exact ⟨pr2, pr5, pr1723, by simp⟩)
theorem pr137849 : Pr 137849 := pratt_of (g := 3) (l := [(2, 3), (17231, 1)]) (by decide +kernel) (by simp only [List.forall_mem_cons]; exact ⟨pr2, pr17231, by simp⟩)
theorem pr3044861653679985063343 : Pr 3044861653679985063343 := pratt_of (g := 5) (l := [(2, 1), (3, 1), (11, 1), (30703, 1), (82163, 1), (132667, 1), (137849, 1)]) (by decide +kernel) (by simp only [List.forall_mem_cons]; exact ⟨pr2, pr3, pr11, pr30703, pr82163, pr132667, pr137849, by simp⟩)
theorem pr198211423230930754013084525763697 : Pr 198211423230930754013084525763697 := pratt_of (g := 5) (l := [(2, 4), (3, 1), (23, 1), (58964693, 1), (3044861653679985063343, 1)]) (by decide +kernel) (by simp only [List.forall_mem_cons]; exact ⟨pr2, pr3, pr23, pr58964693, pr3044861653679985063343, by simp⟩)
theorem pr269 : Pr 269 := pratt_of (g := 2) (l := [(2, 2), (67, 1)]) (by decide +kernel) (by simp only [List.forall_mem_cons]; exact ⟨pr2, pr67, by simp⟩)
theorem pr73 : Pr 73 := pratt_of (g := 5) (l := [(2, 3), (3, 2)]) (by decide +kernel) (by simp only [List.forall_mem_cons]; exact ⟨pr2, pr3, by simp⟩)
theorem pr307 : Pr 307 := pratt_of (g := 5) (l := [(2, 1), (3, 2), (17, 1)]) (by decide +kernel) (by simp only [List.forall_mem_cons]; exact ⟨pr2, pr3, pr17, by simp⟩)
theorem pr113 : Pr 113 := pratt_of (g := 3) (l := [(2, 4), (7, 1)]) (by decide +kernel) (by simp only [List.forall_mem_cons]; exact ⟨pr2, pr7, by simp⟩)
theorem pr2939 : Pr 2939 := pratt_of (g := 2) (l := [(2, 1), (13, 1), (113, 1)]) (by decide +kernel) (by simp only [List.forall_mem_cons]; exact ⟨pr2, pr13, pr113, by simp⟩)
theorem pr5879 : Pr 5879 := pratt_of (g := 11) (l := [(2, 1), (2939, 1)]) (by decide +kernel) (by simp only [List.forall_mem_cons]; exact ⟨pr2, pr2939, by simp⟩)
theorem pr292386187 : Pr 292386187 := pratt_of (g := 2) (l := [(2, 1), (3, 4), (307, 1), (5879, 1)]) (by decide +kernel) (by simp only [List.forall_mem_cons]; exact ⟨pr2, pr3, pr307, pr5879, by simp⟩)
theorem pr213441916511 : Pr 213441916511 := pratt_of (g := 13) (l := [(2, 1), (5, 1), (73, 1), (292386187, 1)]) (by decide +kernel) (by simp only [List.forall_mem_cons]; exact ⟨pr2, pr5, pr73, pr292386187, by simp⟩)
theorem pr1361 : Pr 1361 := pratt_of (g := 3) (l := [(2, 4), (5, 1), (17, 1)]) (by decide +kernel) (by simp only [List.forall_mem_cons]; exact ⟨pr2, pr5, pr17, by simp⟩)
theorem pr2851 : Pr 2851 := pratt_of (g := 2) (l := [(2, 1), (3, 1), (5, 2), (19, 1)]) (by decide +kernel) (by simp only [List.forall_mem_cons]; exact ⟨pr2, pr3, pr5, pr19, by simp⟩)
theorem pr3797 : Pr 3797 := pratt_of (g := 2) (l := [(2, 2), (13, 1), (73, 1)]) (by decide +kernel) (by simp only [List.forall_mem_cons]; exact ⟨pr2, pr13, pr73, by simp⟩)
theorem pr531581 : Pr 531581 := pratt_of (g := 2) (l := [(2, 2), (5, 1), (7, 1), (3797, 1)]) (by decide +kernel) (by simp only [List.forall_mem_cons]; exact ⟨pr2, pr5, pr7, pr3797, by simp⟩)
theorem pr2551 : Pr 2551 := pratt_of (g := 6) (l := [(2, 1), (3, 1), (5, 2), (17, 1)]) (by decide +kernel) (by simp only [List.forall_mem_cons]; exact ⟨pr2, pr3, pr5, pr17, by simp⟩)
theorem pr1224481 : Pr 1224481 := pratt_of (g := 13) (l := [(2, 5), (3, 1), (5, 1), (2551, 1)]) (by decide +kernel) (by simp only [List.forall_mem_cons]; exact ⟨pr2, pr3, pr5, pr2551, by simp⟩)
theorem pr1257559732178653 : Pr 1257559732178653 := pratt_of (g := 2) (l := [(2, 2), (3, 1), (7, 1), (23, 1), (531581, 1), (1224481, 1)]) (by decide +kernel) (by simp only [List.forall_mem_cons]; exact ⟨pr2, pr3, pr7, pr23, pr531581, pr1224481, by simp⟩)
theorem pr4434155615661930479 : Pr 4434155615661930479 := pratt_of (g := 17) (l := [(2, 1), (41, 1), (43, 1), (1257559732178653, 1)]) (by decide +kernel) (by simp only [List.forall_mem_cons]; exact ⟨pr2, pr41, pr43, pr1257559732178653, by simp⟩)
theorem pr172054593956031949258510691 : Pr 172054593956031949258510691 := pratt_of (g := 2) (l := [(2, 1), (5, 1), (1361, 1), (2851, 1), (4434155615661930479, 1)]) (by decide +kernel) (by simp only [List.forall_mem_cons]; exact ⟨pr2, pr5, pr1361, pr2851, pr4434155615661930479, by simp⟩)
theorem pr19757330305831588566944191468367130476339 : Pr 19757330305831588566944191468367130476339 := pratt_of (g := 2) (l := [(2, 1), (269, 1), (213441916511, 1), (172054593956031949258510691, 1)]) (by decide +kernel) (by simp only [List.forall_mem_cons]; exact ⟨pr2, pr269, pr213441916511, pr172054593956031949258510691, by simp⟩)
theorem pr276602624281642239937218680557139826668747 : Pr 276602624281642239937218680557139826668747 := pratt_of (g := 2) (l := [(2, 1), (7, 1), (19757330305831588566944191468367130476339, 1)]) (by decide +kernel) (by simp only [List.forall_mem_cons]; exact ⟨pr2, pr7, pr19757330305831588566944191468367130476339, by simp⟩)
theorem pr7237005577332262213973186563042994240857116359379907606001950938285454250989 : Pr 7237005577332262213973186563042994240857116359379907606001950938285454250989 := pratt_of (g := 2) (l := [(2, 2), (3, 1), (11, 1), (198211423230930754013084525763697, 1), (276602624281642239937218680557139826668747, 1)]) (by decide +kernel) (by simp only [List.forall_mem_cons]; exact ⟨pr2, pr3, pr11, pr198211423230930754013084525763697, pr276602624281642239937218680557139826668747, by simp⟩)
end Ed

/-
  The field of the curve: residues modulo the prime 2^255 - 19: no divisors of nought, powers, inverses, Fermat's law.
-/
namespace Ed

def P : Nat := 57896044618658097711785492504343953926634992332820282019728792003956564819949
theorem P_def : P = 57896044618658097711785492504343953926634992332820282019728792003956564819949 := rfl
instance : NeZero P := ⟨by decide⟩
abbrev F := Fin P
theorem prP : Pr P := pr57896044618658097711785492504343953926634992332820282019728792003956564819949
theorem P_pos : 0 < P := by decide
theorem P_big : 2 ^ 254 < P := by decide

theorem val_zero : (0 : F).val = 0 := rfl
theorem val_one : (1 : F).val = 1 := rfl
theorem val_mul (a b : F) : (a * b).val = a.val * b.val % P := Fin.val_mul a b
theorem val_add (a b : F) : (a + b).val = (a.val + b.val) % P := Fin.val_add a b

theorem mul_eq_zero {a b : F} (h : a * b = 0) : a = 0 ∨ b = 0 := by
  have h1 : a.val * b.val % P = 0 := by rw [← val_mul, h]; rfl
  rcases prP.dvd_mul (Nat.dvd_of_mod_eq_zero h1) with h | h
  · exact .inl (Fin.ext (Nat.eq_zero_of_dvd_of_lt h a.isLt))
  · exact .inr (Fin.ext (Nat.eq_zero_of_dvd_of_lt h b.isLt))
theorem mul_ne_zero {a b : F} (ha : a ≠ 0) (hb : b ≠ 0) : a * b ≠ 0 := fun h => (mul_eq_zero h).elim ha hb
theorem cancel {a b c : F} (hc : c ≠ 0) (h : a * c = b * c) : a = b := by
  have : (a - b) * c = 0 := by grind
  rcases mul_eq_zero this with h | h
  · grind
  · exact absurd h hc
theorem one_ne_zero : (1 : F) ≠ 0 := by decide
theorem two_ne_zero : (2 : F) ≠ 0 := by decide
theorem sq_eq {a b : F} (h : a * a = b * b) : a = b ∨ a = -b := by
  have : (a - b) * (a + b) = 0 := by grind
  rcases mul_eq_zero this with h | h
  · left; grind
  · right; grind

/-- powers -/
def pw (a : F) : Nat → F
  | 0 => 1
  | n + 1 => pw a n * a
theorem pw_add (a : F) (m : Nat) : ∀ n, pw a (m + n) = pw a m * pw a n
  | 0 => by show pw a m = pw a m * 1; grind
  | n + 1 => by
    have := pw_add a m n
    show pw a (m + n) * a = pw a m * (pw a n * a)
    rw [this]; grind
theorem pw_mul (a : F) (m : Nat) : ∀ n, pw a (m * n) = pw (pw a m) n
  | 0 => rfl
  | n + 1 => by
    have := pw_mul a m n
    rw [Nat.mul_succ, pw_add, this]; rfl
theorem pw_mul_base (a b : F) : ∀ n, pw (a * b) n = pw a n * pw b n
  | 0 => by show (1 : F) = 1 * 1; grind
  | n + 1 => by
    have := pw_mul_base a b n
    show pw (a * b) n * (a * b) = pw a n * a * (pw b n * b)
    rw [this]; grind
theorem pw_one (n : Nat) : pw 1 n = 1 := by
  induction n with
  | zero => rfl
  | succ n ih => show pw 1 n * 1 = 1; rw [ih]; rfl
theorem pw_val (a : F) : ∀ n, (pw a n).val = a.val ^ n % P
  | 0 => rfl
  | n + 1 => by
    show (pw a n * a).val = _
    rw [val_mul, pw_val a n, Nat.pow_succ, Nat.mod_mul_mod]
theorem pw_pm (a : F) (n : Nat) (h : n < 2 ^ 256) : (pw a n).val = pm P 256 a.val n := by
  rw [pw_val, pm_eq _ _ _ _ h]
theorem pw_ne_zero {a : F} (h : a ≠ 0) : ∀ n, pw a n ≠ 0
  | 0 => one_ne_zero
  | n + 1 => mul_ne_zero (pw_ne_zero h n) h

def bigf : Nat := 74058212732561358302231226437062788676166966415465897661863160754340907
theorem g_ok : prattOk P 2 [(2, 2), (3, 1), (65147, 1), (bigf, 1)] = true := by decide +kernel
theorem g_surj : ∀ y, 0 < y → y < P → ∃ i, i < P - 1 ∧ 2 ^ i % P = y := by
  have h := g_ok
  simp only [prattOk, Bool.and_eq_true, decide_eq_true_eq, beq_iff_eq, List.all_eq_true, bne_iff_ne] at h
  obtain ⟨⟨⟨⟨h1, h2⟩, h3⟩, h4⟩, h5⟩ := h
  rw [pm_eq _ _ _ _ (by omega)] at h3
  refine pow_surj h1 h3 (pratt_order h1 (l := [(2, 2), (3, 1), (65147, 1), (bigf, 1)]) ?_ h2 h3 fun x hx => ?_)
  · simp only [List.forall_mem_cons]
    exact ⟨pr2, pr3, pr65147, pr74058212732561358302231226437062788676166966415465897661863160754340907, by simp⟩
  · have := h5 x hx
    rwa [pm_eq _ _ _ _ (Nat.lt_of_le_of_lt (Nat.div_le_self _ _) (by omega))] at this
theorem two_fermat : pw 2 (P - 1) = 1 := Fin.ext (by rw [pw_pm _ _ (by decide)]; decide +kernel)
theorem gen (a : F) (h : a ≠ 0) : ∃ i, a = pw 2 i := by
  have h0 : 0 < a.val := Nat.pos_of_ne_zero fun e => h (Fin.ext e)
  obtain ⟨i, _, hi⟩ := g_surj a.val h0 a.isLt
  exact ⟨i, Fin.ext (by rw [pw_val]; exact hi.symm)⟩
theorem fermat {a : F} (h : a ≠ 0) : pw a (P - 1) = 1 := by
  obtain ⟨i, rfl⟩ := gen a h
  rw [← pw_mul, Nat.mul_comm, pw_mul, two_fermat, pw_one]

/-- the inverse, 0 of 0 -/
def inv (a : F) : F := pw a (P - 2)
theorem inv_zero : inv 0 = 0 := Fin.ext (by unfold inv; rw [pw_pm _ _ (by decide)]; decide +kernel)
theorem mul_inv {a : F} (h : a ≠ 0) : a * inv a = 1 := by
  have e : pw a (P - 2 + 1) = pw a (P - 2) * a := rfl
  rw [show P - 2 + 1 = P - 1 by have := P_big; omega, fermat h] at e
  unfold inv; grind
theorem inv_ne_zero {a : F} (h : a ≠ 0) : inv a ≠ 0 := fun e => by
  have := mul_inv h
  rw [e] at this
  exact one_ne_zero (by grind)
/-- u = a / b -/
theorem eq_div {a b u : F} (hb : b ≠ 0) : u = a * inv b ↔ u * b = a := by
  have h1 := mul_inv hb
  generalize inv b = c at *
  constructor
  · intro h; subst h; grind
  · intro h; apply cancel hb; grind

/-- halves of powers -/
theorem halves : (P - 1) / 2 + (P - 1) / 2 = P - 1 := by decide
theorem half_pow {a : F} (h : a ≠ 0) : pw a ((P - 1) / 2) = 1 ∨ pw a ((P - 1) / 2) = -1 := by
  have e : pw a ((P - 1) / 2) * pw a ((P - 1) / 2) = 1 := by
    rw [← pw_add, halves, fermat h]
  exact sq_eq (e.trans (show (1 : F) = 1 * 1 by decide))
theorem half_sq {a : F} (h : a ≠ 0) : pw (a * a) ((P - 1) / 2) = 1 := by
  rw [pw_mul_base, ← pw_add, halves, fermat h]
theorem neg_one_ne : (-1 : F) ≠ 1 := by decide
theorem not_sq {a : F} (h : pw a ((P - 1) / 2) = -1) {u v : F} (hu : u ≠ 0) : a * (u * u) ≠ v * v := by
  intro e
  have h1 : pw (a * (u * u)) ((P - 1) / 2) = -1 := by rw [pw_mul_base, half_sq hu, h]; decide
  rw [e] at h1
  by_cases hv : v = 0
  · rw [hv, show (0 : F) * 0 = 0 from rfl] at h1
    have h2 : pw 0 ((P - 1) / 2) = (0 : F) := Fin.ext (by rw [pw_pm _ _ (by decide)]; decide +kernel)
    rw [h2] at h1
    exact absurd h1 (by decide)
  · rw [half_sq hv] at h1
    exact neg_one_ne h1.symm

/-! ### square roots -/
/-- a root of -1 -/
def im : F := pw 2 ((P - 1) / 4)
theorem im_sq : im * im = -1 := Fin.ext (by
  unfold im
  rw [← pw_add, pw_pm _ _ (by decide)]; decide +kernel)
/-- what the program takes for a root, and whether it is one -/
def root0 (a : F) : F := let c := pw a ((P + 3) / 8); if c * c = a then c else c * im
theorem root0_sq {x : F} : root0 (x * x) * root0 (x * x) = x * x := by
  unfold root0
  simp only []
  split
  · assumption
  · rename_i hne
    by_cases hx : x = 0
    · subst hx
      exfalso; apply hne
      exact Fin.ext (by rw [show (0 : F) * 0 = 0 from rfl, ← pw_add, pw_pm _ _ (by decide)]; decide +kernel)
    have e : pw (x * x) ((P + 3) / 8) * pw (x * x) ((P + 3) / 8) = pw x ((P - 1) / 2) * (x * x) := by
      rw [pw_mul_base, ← pw_add, ← pw_add, show (P + 3) / 8 + (P + 3) / 8 + ((P + 3) / 8 + (P + 3) / 8) = (P - 1) / 2 + 1 + 1 by decide]
      show pw x ((P - 1) / 2) * x * x = _
      grind
    rcases half_pow hx with h | h
    · rw [h] at e; exfalso; apply hne; rw [e]; grind
    · rw [h] at e
      have := im_sq
      grind
end Ed

/-
  The curve's points are a group.
-/
namespace Ed
set_option maxHeartbeats 4000000

def d : F := ⟨37095705934669439343138083508754565189542113879843219016388785533085940283555, by decide⟩
theorem d_mul : d * 121666 = -121665 := by decide
theorem d_half : pw d ((P - 1) / 2) = -1 := Fin.ext (by rw [pw_pm _ _ (by decide)]; decide +kernel)
theorem d_div : d = -121665 * inv 121666 := (eq_div (by decide)).2 d_mul
theorem d_ne : d ≠ 0 := by
  intro h
  have := d_half
  rw [h] at this
  exact absurd this (by
    intro h
    have h2 : pw 0 ((P - 1) / 2) = (0 : F) := Fin.ext (by rw [pw_pm _ _ (by decide)]; decide +kernel)
    rw [h2] at h
    exact absurd h (by decide))

def On (x y : F) : Prop := y * y - x * x = 1 + d * x * x * y * y

/-- the sum's divisors are not nought -/
theorem complete {x1 y1 x2 y2 e : F} (h1 : On x1 y1) (h2 : On x2 y2) (he : e = d * x1 * x2 * y1 * y2) : e * e ≠ 1 := by
  unfold On at h1 h2
  intro hee
  have him := im_sq
  have hx1 : x1 * y1 ≠ 0 := by
    intro h
    have : e = 0 := by rw [he]; grind
    rw [this] at hee; exact absurd hee (by decide)
  have hA : d * ((x1 * y1 * (im * x2 + y2)) * (x1 * y1 * (im * x2 + y2))) = (im * x1 + e * y1) * (im * x1 + e * y1) := by grind
  have hB : d * ((x1 * y1 * (im * x2 - y2)) * (x1 * y1 * (im * x2 - y2))) = (im * x1 - e * y1) * (im * x1 - e * y1) := by grind
  by_cases ha : im * x2 + y2 = 0
  · by_cases hb : im * x2 - y2 = 0
    · have hy : y2 = 0 := by
        have : (2 : F) * y2 = 0 := by grind
        exact (mul_eq_zero this).resolve_left two_ne_zero
      have : e = 0 := by rw [he, hy]; grind
      rw [this] at hee; exact absurd hee (by decide)
    · exact not_sq d_half (mul_ne_zero hx1 hb) hB
  · exact not_sq d_half (mul_ne_zero hx1 ha) hA

structure Pt where
  x : F
  y : F
  on : On x y
theorem Pt.ext {p q : Pt} (h1 : p.x = q.x) (h2 : p.y = q.y) : p = q := by
  cases p; cases q; cases h1; cases h2; rfl
instance : DecidableEq Pt := fun p q => if h : p.x = q.x ∧ p.y = q.y then isTrue (Pt.ext h.1 h.2) else isFalse fun e => h (by rw [e]; exact ⟨rfl, rfl⟩)

def ee (p q : Pt) : F := d * p.x * q.x * p.y * q.y
theorem ee_ne (p q : Pt) : 1 + ee p q ≠ 0 ∧ 1 - ee p q ≠ 0 := by
  have := complete (e := ee p q) p.on q.on rfl
  constructor
  · intro h; apply this; grind
  · intro h; apply this; grind
def sx (p q : Pt) : F := (p.x * q.y + q.x * p.y) * inv (1 + ee p q)
def sy (p q : Pt) : F := (p.y * q.y + p.x * q.x) * inv (1 - ee p q)
theorem sx_eq (p q : Pt) : sx p q * (1 + ee p q) = p.x * q.y + q.x * p.y := (eq_div (ee_ne p q).1).1 rfl
theorem sy_eq (p q : Pt) : sy p q * (1 - ee p q) = p.y * q.y + p.x * q.x := (eq_div (ee_ne p q).2).1 rfl

theorem on_poly (x1 y1 x2 y2 d : F) (h1 : y1*y1 - x1*x1 = 1 + d*x1*x1*y1*y1) (h2 : y2*y2 - x2*x2 = 1 + d*x2*x2*y2*y2) :
    (y1*y2+x1*x2)*(y1*y2+x1*x2)*((1+d*x1*x2*y1*y2)*(1+d*x1*x2*y1*y2)) - (x1*y2+x2*y1)*(x1*y2+x2*y1)*((1-d*x1*x2*y1*y2)*(1-d*x1*x2*y1*y2))
    = (1+d*x1*x2*y1*y2)*(1+d*x1*x2*y1*y2)*((1-d*x1*x2*y1*y2)*(1-d*x1*x2*y1*y2)) + d*((x1*y2+x2*y1)*(x1*y2+x2*y1))*((y1*y2+x1*x2)*(y1*y2+x1*x2)) := by grind

theorem sum_on (p q : Pt) : On (sx p q) (sy p q) := by
  have ha := (ee_ne p q).1
  have hb := (ee_ne p q).2
  have e1 := sx_eq p q
  have e2 := sy_eq p q
  have hp := on_poly p.x p.y q.x q.y d p.on q.on
  rw [show d * p.x * q.x * p.y * q.y = ee p q from rfl, ← e1, ← e2] at hp
  generalize ee p q = e at *
  generalize sx p q = u at *
  generalize sy p q = v at *
  unfold On
  refine cancel (mul_ne_zero (mul_ne_zero ha ha) (mul_ne_zero hb hb)) ?_
  clear e1 e2 ha hb
  generalize 1 + e = s at *
  generalize 1 - e = t at *
  grind

def Pt.add (p q : Pt) : Pt := ⟨sx p q, sy p q, sum_on p q⟩
instance : Add Pt := ⟨Pt.add⟩
def Pt.zero : Pt := ⟨0, 1, by unfold On; grind⟩
instance : Zero Pt := ⟨Pt.zero⟩
def Pt.neg (p : Pt) : Pt := ⟨-p.x, p.y, by have := p.on; unfold On at *; grind⟩
instance : Neg Pt := ⟨Pt.neg⟩
theorem add_x (p q : Pt) : (p + q).x = sx p q := rfl
theorem add_y (p q : Pt) : (p + q).y = sy p q := rfl
theorem zero_x : (0 : Pt).x = 0 := rfl
theorem zero_y : (0 : Pt).y = 1 := rfl
theorem neg_x (p : Pt) : (-p).x = -p.x := rfl
theorem neg_y (p : Pt) : (-p).y = p.y := rfl

/-- a sum is known by its products -/
theorem add_eq {p q r : Pt} (h1 : r.x * (1 + ee p q) = p.x * q.y + q.x * p.y) (h2 : r.y * (1 - ee p q) = p.y * q.y + p.x * q.x) : p + q = r :=
  Pt.ext (cancel (ee_ne p q).1 (by rw [add_x, sx_eq, h1])) (cancel (ee_ne p q).2 (by rw [add_y, sy_eq, h2]))

theorem add_comm (p q : Pt) : p + q = q + p := by
  refine add_eq ?_ ?_
  · have := sx_eq q p
    rw [add_x, show ee p q = ee q p by unfold ee; grind, this]; grind
  · have := sy_eq q p
    rw [add_y, show ee p q = ee q p by unfold ee; grind, this]; grind
theorem zero_add (p : Pt) : 0 + p = p := by
  have e : ee 0 p = 0 := by unfold ee; rw [zero_x]; grind
  refine add_eq ?_ ?_
  · rw [e, zero_x, zero_y]; grind
  · rw [e, zero_x, zero_y]; grind
theorem add_zero (p : Pt) : p + 0 = p := by rw [add_comm, zero_add]
theorem neg_add (p : Pt) : -p + p = 0 := by
  have h := p.on
  unfold On at h
  refine add_eq ?_ ?_
  · rw [zero_x, neg_x, neg_y]; grind
  · rw [zero_y, neg_x, neg_y]; unfold ee; rw [neg_x, neg_y]; grind
theorem add_neg (p : Pt) : p + -p = 0 := by rw [add_comm, neg_add]

theorem assoc_x (x1 y1 x2 y2 x3 y3 d : F) (h1 : y1*y1 - x1*x1 = 1 + d*x1*x1*y1*y1) (h2 : y2*y2 - x2*x2 = 1 + d*x2*x2*y2*y2) (h3 : y3*y3 - x3*x3 = 1 + d*x3*x3*y3*y3)  :
   ((x1*y2+x2*y1)*(1-d*x1*x2*y1*y2)*y3 + x3*(y1*y2+x1*x2)*(1+d*x1*x2*y1*y2))*((1-d*x2*x3*y2*y3*d*x2*x3*y2*y3)+d*x1*y1*(x2*y3+x3*y2)*(y2*y3+x2*x3))
   = (x1*(y2*y3+x2*x3)*(1+d*x2*x3*y2*y3)+y1*(x2*y3+x3*y2)*(1-d*x2*x3*y2*y3))*((1-d*x1*x2*y1*y2*d*x1*x2*y1*y2)+d*(x1*y2+x2*y1)*(y1*y2+x1*x2)*x3*y3) := by grind
theorem assoc_y (x1 y1 x2 y2 x3 y3 d : F) (h1 : y1*y1 - x1*x1 = 1 + d*x1*x1*y1*y1) (h2 : y2*y2 - x2*x2 = 1 + d*x2*x2*y2*y2) (h3 : y3*y3 - x3*x3 = 1 + d*x3*x3*y3*y3)  :
   ((y1*y2+x1*x2)*(1+d*x1*x2*y1*y2)*y3 + (x1*y2+x2*y1)*(1-d*x1*x2*y1*y2)*x3)*((1-d*x2*x3*y2*y3*d*x2*x3*y2*y3)-d*x1*y1*(x2*y3+x3*y2)*(y2*y3+x2*x3))
   = (y1*(y2*y3+x2*x3)*(1+d*x2*x3*y2*y3)+x1*(x2*y3+x3*y2)*(1-d*x2*x3*y2*y3))*((1-d*x1*x2*y1*y2*d*x1*x2*y1*y2)-d*(x1*y2+x2*y1)*(y1*y2+x1*x2)*x3*y3) := by grind

/-- the sum's own product, with the divisors cleared -/
theorem clear {d e1 e2 u v X Y x y K : F} (hu : u * (1 + e1) = X) (hv : v * (1 - e1) = Y) (he2 : e2 = d * u * x * v * y) (hK : K = (1 - e1 * e1) + d * X * Y * x * y) :
    (1 + e2) * (1 - e1 * e1) = K := by subst hK; subst hu; subst hv; subst he2; grind
theorem clear' {d e1 e2 u v X Y x y K : F} (hu : u * (1 + e1) = X) (hv : v * (1 - e1) = Y) (he2 : e2 = d * u * x * v * y) (hK : K = (1 - e1 * e1) - d * X * Y * x * y) :
    (1 - e2) * (1 - e1 * e1) = K := by subst hK; subst hu; subst hv; subst he2; grind

theorem ne_sq {p q : Pt} : 1 - ee p q * ee p q ≠ 0 := by
  have := mul_ne_zero (ee_ne p q).1 (ee_ne p q).2
  intro h; apply this; grind

theorem add_assoc (p q r : Pt) : p + q + r = p + (q + r) := by
  have ax := assoc_x p.x p.y q.x q.y r.x r.y d p.on q.on r.on
  have ay := assoc_y p.x p.y q.x q.y r.x r.y d p.on q.on r.on
  -- the left side
  have l1 := sx_eq p q
  have l2 := sy_eq p q
  have l3 := sx_eq (p + q) r
  have l4 := sy_eq (p + q) r
  have l5 := ee_ne (p + q) r
  have l6 := @ne_sq p q
  have l7 : ee (p + q) r = d * sx p q * r.x * sy p q * r.y := rfl
  rw [add_x, add_y] at l3 l4
  -- the right side
  have r1 := sx_eq q r
  have r2 := sy_eq q r
  have r3 := sx_eq p (q + r)
  have r4 := sy_eq p (q + r)
  have r5 := ee_ne p (q + r)
  have r6 := @ne_sq q r
  have r7 : ee p (q + r) = d * sx q r * p.x * sy q r * p.y := by unfold ee; rw [add_x, add_y]; grind
  rw [add_x, add_y] at r3 r4
  have a1 := clear l1 l2 l7 rfl
  have a2 := clear' l1 l2 l7 rfl
  have b1 := clear r1 r2 r7 rfl
  have b2 := clear' r1 r2 r7 rfl
  rw [show d * p.x * q.x * p.y * q.y * d * p.x * q.x * p.y * q.y = ee p q * ee p q by unfold ee; grind,
    show d * q.x * r.x * q.y * r.y * d * q.x * r.x * q.y * r.y = ee q r * ee q r by unfold ee; grind,
    show d * p.x * q.x * p.y * q.y = ee p q from rfl, show d * q.x * r.x * q.y * r.y = ee q r from rfl,
    show d * p.x * p.y * (q.x * r.y + r.x * q.y) * (q.y * r.y + q.x * r.x) = d * (q.x * r.y + r.x * q.y) * (q.y * r.y + q.x * r.x) * p.x * p.y by grind] at ax ay
  rw [← a1, ← b1] at ax
  rw [← a2, ← b2] at ay
  have n1 := mul_ne_zero (mul_ne_zero l5.1 l6) (mul_ne_zero r5.1 r6)
  have n2 := mul_ne_zero (mul_ne_zero l5.2 l6) (mul_ne_zero r5.2 r6)
  refine Pt.ext ?_ ?_
  · rw [add_x, add_x]
    refine cancel n1 ?_
    rw [← l1, ← l2, ← r1, ← r2] at ax
    clear ay a1 a2 b1 b2 l4 r4 l7 r7 n1 n2 l1 l2 r1 r2 l5 l6 r5 r6
    generalize sx (p + q) r = A at *
    generalize sx p (q + r) = B at *
    generalize ee (p + q) r = C at *
    generalize ee p (q + r) = D at *
    generalize ee p q = e at *
    generalize ee q r = f at *
    generalize sx p q = u at *
    generalize sy p q = v at *
    generalize sx q r = s at *
    generalize sy q r = t at *
    have g1 : A * ((1 + C) * (1 - e * e) * ((1 + D) * (1 - f * f))) = (u * r.y + r.x * v) * (1 - e * e) * ((1 + D) * (1 - f * f)) := by rw [← l3]; grind
    have g2 : B * ((1 + C) * (1 - e * e) * ((1 + D) * (1 - f * f))) = (p.x * t + s * p.y) * (1 - f * f) * ((1 + C) * (1 - e * e)) := by rw [← r3]; grind
    rw [g1, g2]
    clear g1 g2 l3 r3
    grind
  · rw [add_y, add_y]
    refine cancel n2 ?_
    rw [← l1, ← l2, ← r1, ← r2] at ay
    clear ax a1 a2 b1 b2 l3 r3 l7 r7 n1 n2 l1 l2 r1 r2 l5 l6 r5 r6
    generalize sy (p + q) r = A at *
    generalize sy p (q + r) = B at *
    generalize ee (p + q) r = C at *
    generalize ee p (q + r) = D at *
    generalize ee p q = e at *
    generalize ee q r = f at *
    generalize sx p q = u at *
    generalize sy p q = v at *
    generalize sx q r = s at *
    generalize sy q r = t at *
    have g1 : A * ((1 - C) * (1 - e * e) * ((1 - D) * (1 - f * f))) = (v * r.y + u * r.x) * (1 - e * e) * ((1 - D) * (1 - f * f)) := by rw [← l4]; grind
    have g2 : B * ((1 - C) * (1 - e * e) * ((1 - D) * (1 - f * f))) = (p.y * t + p.x * s) * (1 - f * f) * ((1 - C) * (1 - e * e)) := by rw [← r4]; grind
    rw [g1, g2]
    clear g1 g2 l4 r4
    grind
end Ed

/-
  Multiples of points; points with a divisor; points told by y and a bit.
-/
namespace Ed
set_option maxHeartbeats 4000000

/-! ### multiples -/
def smul : Nat → Pt → Pt
  | 0, _ => 0
  | n + 1, p => smul n p + p
theorem smul_zero (p : Pt) : smul 0 p = 0 := rfl
theorem smul_one (p : Pt) : smul 1 p = p := zero_add p
theorem smul_add (m : Nat) (p : Pt) : ∀ n, smul (m + n) p = smul m p + smul n p
  | 0 => (add_zero _).symm
  | n + 1 => by
    show smul (m + n) p + p = smul m p + (smul n p + p)
    rw [smul_add m p n, add_assoc]
theorem smul_smul (m : Nat) (p : Pt) : ∀ n, smul (n * m) p = smul n (smul m p)
  | 0 => by rw [Nat.zero_mul]; rfl
  | n + 1 => by
    rw [Nat.succ_mul, smul_add, smul_smul m p n]; rfl
theorem add_left_comm (p q r : Pt) : p + (q + r) = q + (p + r) := by
  rw [← add_assoc, add_comm p q, add_assoc]
theorem add_cancel {p q r : Pt} (h : p + r = q + r) : p = q := by
  have := congrArg (· + -r) h
  simpa only [add_assoc, add_neg, add_zero] using this
theorem neg_unique {p q : Pt} (h : p + q = 0) : p = -q := add_cancel (r := q) (by rw [h, neg_add])
theorem neg_neg (p : Pt) : -(-p) = p := (neg_unique (add_neg p)).symm
theorem neg_zero : -(0 : Pt) = 0 := (neg_unique (add_zero 0)).symm
theorem neg_add_rev (p q : Pt) : -(p + q) = -p + -q := by
  refine (neg_unique ?_).symm
  rw [add_assoc, add_left_comm (-q) p, neg_add, add_zero, neg_add]
theorem smul_neg (p : Pt) : ∀ n, smul n (-p) = -(smul n p)
  | 0 => neg_zero.symm
  | n + 1 => by
    show smul n (-p) + -p = -(smul n p + p)
    rw [smul_neg p n, neg_add_rev]
theorem smul_pt_add (p q : Pt) : ∀ n, smul n (p + q) = smul n p + smul n q
  | 0 => by show (0 : Pt) = 0 + 0; exact (add_zero 0).symm
  | n + 1 => by
    show smul n (p + q) + (p + q) = smul n p + p + (smul n q + q)
    rw [smul_pt_add p q n, add_assoc, add_assoc, add_left_comm (smul n q)]
theorem smul_at_zero : ∀ n, smul n (0 : Pt) = 0
  | 0 => rfl
  | n + 1 => by show smul n 0 + 0 = 0; rw [smul_at_zero n, add_zero]
def sumP (l : List Pt) : Pt := l.foldl (fun a p => a + p) 0

/-! ### with a divisor -/
structure Rep (p : Pt) (x y z t : F) : Prop where
  nz : z ≠ 0
  x : x = p.x * z
  y : y = p.y * z
  t : t = p.x * p.y * z
theorem Rep.far (p : Pt) : Rep p p.x p.y 1 (p.x * p.y) := ⟨one_ne_zero, by grind, by grind, by grind⟩
def pe (x1 y1 x2 y2 : F) : F := (y1 + x1) * (y2 + x2) - (y1 - x1) * (y2 - x2)
def ph (x1 y1 x2 y2 : F) : F := (y1 + x1) * (y2 + x2) + (y1 - x1) * (y2 - x2)
def pf (z1 t1 z2 t2 : F) : F := z1 * z2 * 2 - t1 * (d + d) * t2
def pg (z1 t1 z2 t2 : F) : F := z1 * z2 * 2 + t1 * (d + d) * t2
def padd (x1 y1 z1 t1 x2 y2 z2 t2 : F) : List F :=
  [pe x1 y1 x2 y2 * pf z1 t1 z2 t2, pg z1 t1 z2 t2 * ph x1 y1 x2 y2, pf z1 t1 z2 t2 * pg z1 t1 z2 t2, pe x1 y1 x2 y2 * ph x1 y1 x2 y2]
theorem Rep.add {p q : Pt} {x1 y1 z1 t1 x2 y2 z2 t2 : F} (h1 : Rep p x1 y1 z1 t1) (h2 : Rep q x2 y2 z2 t2) :
    Rep (p + q) (pe x1 y1 x2 y2 * pf z1 t1 z2 t2) (pg z1 t1 z2 t2 * ph x1 y1 x2 y2) (pf z1 t1 z2 t2 * pg z1 t1 z2 t2) (pe x1 y1 x2 y2 * ph x1 y1 x2 y2) := by
  obtain ⟨n1, a1, b1, c1⟩ := h1
  obtain ⟨n2, a2, b2, c2⟩ := h2
  have e1 := sx_eq p q
  have e2 := sy_eq p q
  have m1 := (ee_ne p q).1
  have m2 := (ee_ne p q).2
  have he : pe x1 y1 x2 y2 = 2 * (z1 * z2) * (p.x * q.y + q.x * p.y) := by unfold pe; subst a1 a2 b1 b2; grind
  have hh : ph x1 y1 x2 y2 = 2 * (z1 * z2) * (p.y * q.y + p.x * q.x) := by unfold ph; subst a1 a2 b1 b2; grind
  have hf : pf z1 t1 z2 t2 = 2 * (z1 * z2) * (1 - ee p q) := by unfold pf ee; subst c1 c2; grind
  have hg : pg z1 t1 z2 t2 = 2 * (z1 * z2) * (1 + ee p q) := by unfold pg ee; subst c1 c2; grind
  have hz : (2 : F) * (z1 * z2) ≠ 0 := mul_ne_zero two_ne_zero (mul_ne_zero n1 n2)
  rw [he, hh, hf, hg, ← e1, ← e2]
  generalize 2 * (z1 * z2) = w at *
  refine ⟨mul_ne_zero (mul_ne_zero hz m2) (mul_ne_zero hz m1), ?_, ?_, ?_⟩
  · rw [add_x]; generalize sx p q = u; generalize sy p q = v; generalize ee p q = e; grind
  · rw [add_y]; generalize sx p q = u; generalize sy p q = v; generalize ee p q = e; grind
  · rw [add_x, add_y]; generalize sx p q = u; generalize sy p q = v; generalize ee p q = e; grind
theorem Rep.near {p : Pt} {x y z t : F} (h : Rep p x y z t) : x * inv z = p.x ∧ y * inv z = p.y := by
  obtain ⟨n, a, b, c⟩ := h
  have := mul_inv n
  generalize inv z = i at *
  subst a b
  constructor <;> grind

/-! ### roots -/
def isOdd (x : F) : Bool := x.val % 2 == 1
/-- the even one of both roots, if there is one -/
def isSq (a : F) : Bool := decide (root0 a * root0 a = a)
def root (a : F) : F := if root0 a * root0 a = a then (if isOdd (root0 a) then 0 - root0 a else root0 a) else 0
theorem sub_val {x : F} (h : x ≠ 0) : (0 - x).val = P - x.val := by
  have : x.val ≠ 0 := fun e => h (Fin.ext e)
  have hx := x.isLt
  rw [Fin.sub_def]
  show (P - x.val + 0) % P = _
  rw [Nat.add_zero, Nat.mod_eq_of_lt (by omega)]
theorem P_odd : P % 2 = 1 := by decide
theorem odd_neg {x : F} (h : x ≠ 0) : isOdd (0 - x) = !isOdd x := by
  unfold isOdd
  rw [sub_val h]
  have hx := x.isLt
  have := P_odd
  rw [Bool.eq_iff_iff]
  simp only [beq_iff_eq, Bool.not_eq_true', beq_eq_false_iff_ne]
  omega
theorem root_sq {a : F} (h : isSq a = true) : root a * root a = a ∧ isOdd (root a) = false := by
  have h' : root0 a * root0 a = a := of_decide_eq_true h
  unfold root
  rw [if_pos h']
  cases ho : isOdd (root0 a)
  · simp only [Bool.false_eq_true, if_false]
    exact ⟨h', ho⟩
  · have hn : root0 a ≠ 0 := by rintro e; rw [e] at ho; exact absurd ho (by decide)
    simp only [if_true]
    refine And.intro ?_ (by rw [odd_neg hn, ho]; rfl)
    have h2 : ∀ c : F, c * c = a → (0 - c) * (0 - c) = a := fun c hc => by grind
    exact h2 _ h'
theorem isSq_sq (x : F) : isSq (x * x) = true := decide_eq_true root0_sq
/-- the root of a square is the even one of both -/
theorem root_of_sq {x : F} : root (x * x) = if isOdd x then 0 - x else x := by
  obtain ⟨h1, h2⟩ := root_sq (isSq_sq x)
  rcases sq_eq h1 with h | h
  · rw [h] at h2 ⊢; rw [h2]; rfl
  · have e : -x = 0 - x := by grind
    rw [e] at h
    by_cases hx : x = 0
    · subst hx; exact h
    · rw [h] at h2 ⊢
      rw [odd_neg hx] at h2
      have : isOdd x = true := by cases hc : isOdd x <;> simp_all
      rw [this]; rfl

/-! ### points told by y -/
/-- x's square, of y -/
def uv (y : F) : F := (y * y - 1) * inv (d * (y * y) + 1)
theorem uv_ne (y : F) : d * (y * y) + 1 ≠ 0 := by
  intro h
  have := im_sq
  by_cases hy : y = 0
  · rw [hy] at h
    have h1 : ∀ c : F, c * (0 * 0) + 1 = 0 → (1 : F) = 0 := fun c hc => by
      have e : c * (0 * 0) + 1 = (1 : F) := by rw [show (0 : F) * 0 = 0 from rfl, Fin.mul_zero, Fin.zero_add]
      exact e.symm.trans hc
    exact one_ne_zero (h1 d h)
  · refine not_sq d_half (u := y) (v := im) hy ?_
    grind
theorem on_iff {x y : F} : On x y ↔ x * x = uv y := by
  unfold On uv
  have h := uv_ne y
  have e := @eq_div (y * y - 1) (d * (y * y) + 1) (x * x) h
  rw [e]
  constructor <;> intro h <;> grind
/-- a point of a number: the highest bit is x's oddness; 5: there is none; 3: of another length -/
def readP (len : Bool) (n : Nat) : Except Nat Pt :=
  if len then
    if h : n % 2 ^ 255 < P then
      let y : F := ⟨n % 2 ^ 255, h⟩
      if hs : isSq (uv y) = true then
        let p : Pt := ⟨root (uv y), y, on_iff.2 (root_sq hs).1⟩
        if n / 2 ^ 255 % 2 = 1 then (if p.x = 0 then .error 5 else .ok (-p)) else .ok p
      else .error 5
    else .error 5
  else .error 3
end Ed

/-
  The base point and its order.
-/
namespace Ed
set_option maxRecDepth 100000

structure Q4 where
  x : F
  y : F
  z : F
  t : F
def Q4.add (p q : Q4) : Q4 := ⟨pe p.x p.y q.x q.y * pf p.z p.t q.z q.t, pg p.z p.t q.z q.t * ph p.x p.y q.x q.y, pf p.z p.t q.z q.t * pg p.z p.t q.z q.t, pe p.x p.y q.x q.y * ph p.x p.y q.x q.y⟩
def Q4.mul : Nat → Nat → Q4 → Q4
  | 0, _, _ => ⟨0, 1, 1, 0⟩
  | f + 1, n, p => if n % 2 = 1 then ((Q4.mul f (n / 2) p).add (Q4.mul f (n / 2) p)).add p else (Q4.mul f (n / 2) p).add (Q4.mul f (n / 2) p)
def Q4.rep (p : Pt) (q : Q4) : Prop := Rep p q.x q.y q.z q.t
theorem Q4.mul_rep {p : Pt} {q : Q4} (h : Q4.rep p q) : ∀ (f n : Nat), n < 2 ^ f → Q4.rep (smul n p) (Q4.mul f n q) := by
  intro f
  induction f with
  | zero =>
    intro n hn
    have : n = 0 := by simp at hn; omega
    subst this
    exact ⟨one_ne_zero, rfl, rfl, rfl⟩
  | succ f ih =>
    intro n hn
    have h2 := ih (n / 2) (by rw [Nat.pow_succ] at hn; omega)
    have h3 : Q4.rep (smul (n / 2 + n / 2) p) ((Q4.mul f (n / 2) q).add (Q4.mul f (n / 2) q)) := by rw [smul_add]; exact Rep.add h2 h2
    unfold Q4.mul
    split
    · rename_i hc
      rw [show n = n / 2 + n / 2 + 1 by omega]
      rw [show (n / 2 + n / 2 + 1) / 2 = n / 2 by omega]
      exact Rep.add h3 h
    · rename_i hc
      have e : n = n / 2 + n / 2 := by omega
      rw [← e] at h3
      exact h3

def Bx : F := ⟨15112221349535400772501151409588531511454012693041857206046113283949847762202, by decide⟩
def By : F := ⟨46316835694926478169428394003475163141307993866256225615783033603165251855960, by decide⟩
theorem By_eq : By = 1 * 4 * inv 5 := Fin.ext (by
  have : By = 4 * inv 5 := (eq_div (by decide)).2 (by decide)
  rw [this]; grind)
def Bp : Pt := ⟨Bx, By, by unfold On; decide +kernel⟩
def L : Nat := 7237005577332262213973186563042994240857116359379907606001950938285454250989
theorem base_order : smul L Bp = 0 := by
  have h := Q4.mul_rep (q := ⟨Bx, By, 1, Bx * By⟩) (Rep.far Bp) 256 L (by decide)
  have hx : (Q4.mul 256 L ⟨Bx, By, 1, Bx * By⟩).x = 0 := by decide +kernel
  have hy : (Q4.mul 256 L ⟨Bx, By, 1, Bx * By⟩).y = (Q4.mul 256 L ⟨Bx, By, 1, Bx * By⟩).z := by decide +kernel
  obtain ⟨n, a, b, c⟩ := h
  refine Pt.ext ?_ ?_
  · rw [hx] at a
    exact (mul_eq_zero a.symm).resolve_right n
  · rw [hy] at b
    exact cancel n (by rw [← b]; show _ = (1 : F) * _; grind)
theorem base_not_small : smul 8 Bp ≠ 0 := by
  intro e
  have h := Q4.mul_rep (q := ⟨Bx, By, 1, Bx * By⟩) (Rep.far Bp) 4 8 (by decide)
  rw [e] at h
  have hx : (Q4.mul 4 8 ⟨Bx, By, 1, Bx * By⟩).x ≠ 0 := by decide +kernel
  apply hx
  rw [h.x]; show (0 : F) * _ = 0; grind
/-- the even root of the base's y -/
theorem base_root : root (uv By) = Bx ∧ isSq (uv By) = true := by
  have h : Bx * Bx = uv By := on_iff.1 Bp.on
  rw [← h, root_of_sq]
  exact ⟨by rw [show isOdd Bx = false by decide]; rfl, isSq_sq _⟩
theorem smul_mod (n : Nat) : smul n Bp = smul (n % L) Bp := by
  have e : n = n % L + (n / L) * L := by rw [Nat.mul_comm]; exact (Nat.mod_add_div n L).symm
  conv => lhs; rw [e, smul_add, smul_smul, base_order, smul_at_zero, add_zero]
end Ed
