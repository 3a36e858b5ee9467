/- DialPublics: bytes that are no public ones lead to none: for every input, without a condition. -/
import Derived.Test.YtpeafegfjhljmaaVS
import Derived.Test.YtpeafegfjhljmaaVE
import Derived.Test.YtpeafegfjhljmaaVP
import Derived.Test.YtpeafegfjhljmaaRows
/-
  Functions of the program: what each computes.
-/
open Go Go.Sx Go.Proofs
open Ed (F P inv pw Pt)
namespace Go.Proofs.Ytpeafegfjhljmaa
set_option maxRecDepth 100000
set_option maxHeartbeats 4000000
noncomputable def E_signread_0 : Option Ran := ex1 (cfg 20) (fun n => if n = 4 then some false else none) 0 4000 30000 1 (inSt ((s1t 1))) [.c (bodyOf Try.f74)] .nor
noncomputable def E_signread_1 : Option Ran := ex1 (cfg 20) (fun n => if n = 4 then some true else if n = 5 then some true else none) 0 4000 50000 1 (inSt ((s1t 1))) [.c (bodyOf Try.f74)] .nor
noncomputable def E_signread_2 : Option Ran := ex1 (cfg 20) (fun n => if n = 4 then some true else if n = 5 then some false else none) 0 4000 70000 1 (inSt ((s1t 1))) [.c (bodyOf Try.f74)] .nor
theorem c_signread : Ctr Try.prog glb0 74 (s1t 1) (fun ds r => ∃ l, isB l ∧ l.length < 2 ^ 60 ∧ ds = [bts l] ∧ r = rdV (signP (decide (l.length = 32)) (le l))) := by
  refine ctr (C := cfg 20) mixed ti_ok Try.func74 (by kernel_rfl) ?_
  rintro ds r X Q hl ⟨l, hb, hn, rfl, rfl⟩ hE
  rcases hr : Ed.readP (decide (l.length = 32)) (le l) with n | p
  · have hn0 : n ≠ 0 := by have := readP_err hr; omega
    refine Jd.go2 (E := E_signread_0) 1 [bts l] rfl rfl rfl [.call 13 ⟨none, [.one (.sv 1)], .tup [.one .v, .one .v]⟩ [.one (.rc (.all 0))] 1, .tupc 1 0 2, .tupc 1 1 3, .isAgg 2 8, .bin .eql 29 (.at (.one (.var 3))) (.at (.one (.lit (.int .i64 0)))) 4, .isBool 4 false, .isBool 4 false, .isBool 4 false, .isAgg 2 8, .isAgg 2 8] (by kernel_rfl) ?_
    refine vc_call c_readPk (ds := [bts l]) (r := Value.tuple #[nums [0, 0], I n]) (fun _ => rfl) rfl (⟨_, hb, hn, rfl, by rw [hr]; rfl⟩) ?_
    refine vc_tupc (fun _ => rfl) rfl rfl ?_
    refine vc_tupc (fun _ => rfl) rfl rfl ?_
    refine vc_isAgg rfl rfl rfl ?_
    refine vc_cmp (op := .eql) (x := n) (y := (0 : Nat)) (k := .i64) (t := decide (n = 0)) (by exact fun _ => rfl) (by exact fun _ => rfl) rfl rfl ?_
    refine vc_isBool (by show Bo (decide _) = _; rw [decide_eq_false hn0]; rfl) ?_
    refine vc_isBool (by show Bo (decide _) = _; rw [decide_eq_false hn0]; rfl) ?_
    refine vc_isBool (by show Bo (decide _) = _; rw [decide_eq_false hn0]; rfl) ?_
    refine vc_isAgg rfl rfl rfl ?_
    refine vc_isAgg rfl rfl rfl ?_
    refine vc_nil ?_
    refine JF.ret (by kernel_rfl) ?_
    refine hE.fin3 5 [Bo (decide (n = 0)), I n, nums [0, 0], Value.tuple #[nums [0, 0], I n], bts l] rfl rfl (cm := [.isAgg 2 8]) (ds := [.v (.at (.one (.var 2))), .v (.at (.one (.var 3)))]) (by kernel_rfl) rfl (.inr rfl) ?_
    refine vc_isAgg rfl rfl rfl ?_
    refine vc_nil ?_
    show Value.tuple #[nums [0, 0], I n] = _
    rw [signP_err hr]
    rfl
  · by_cases h8 : Ed.smul 8 p = 0
    · refine Jd.go2 (E := E_signread_1) 1 [bts l] rfl rfl rfl [.call 13 ⟨none, [.one (.sv 1)], .tup [.one .v, .one .v]⟩ [.one (.rc (.all 0))] 1, .tupc 1 0 2, .tupc 1 1 3, .isAgg 2 8, .bin .eql 29 (.at (.one (.var 3))) (.at (.one (.lit (.int .i64 0)))) 4, .isBool 4 true, .isAgg 2 8, .isBool 4 true, .call 39 ⟨none, [.one .v], .two (.one .v)⟩ [.one (.a (.var 2))] 5, .isBool 4 true, .isBool 5 true] (by kernel_rfl) ?_
      refine vc_call c_readPk (ds := [bts l]) (r := Value.tuple #[PV p, I 0]) (fun _ => rfl) rfl (⟨_, hb, hn, rfl, by rw [hr]; rfl⟩) ?_
      refine vc_tupc (fun _ => rfl) rfl rfl ?_
      refine vc_tupc (fun _ => rfl) rfl rfl ?_
      refine vc_isAgg rfl rfl rfl ?_
      refine vc_cmp (op := .eql) (x := 0) (y := (0 : Nat)) (k := .i64) (t := decide (0 = 0)) (by exact fun _ => rfl) (by exact fun _ => rfl) rfl rfl ?_
      refine vc_isBool (rfl) ?_
      refine vc_isAgg rfl rfl rfl ?_
      refine vc_isBool (rfl) ?_
      refine vc_call c_smallP (ds := [PV p]) (r := Bo (decide (Ed.smul 8 p = 0))) (fun _ => rfl) rfl (⟨_, rfl, rfl⟩) ?_
      refine vc_isBool (rfl) ?_
      refine vc_isBool (by show Bo (decide _) = _; rw [decide_eq_true h8]; rfl) ?_
      refine vc_nil ?_
      refine JF.ret (by kernel_rfl) ?_
      refine hE.fin3 6 [Bo (decide (Ed.smul 8 p = 0)), Bo (decide (0 = 0)), I 0, PV p, Value.tuple #[PV p, I 0], bts l] rfl rfl (cm := []) (ds := [.v (.at (.agg [.lit (.int .u64 0), .lit (.int .u64 0), .lit (.int .u64 0), .lit (.int .u64 0), .lit (.int .u64 0), .lit (.int .u64 0), .lit (.int .u64 0), .lit (.int .u64 0)])), .v (.at (.one (.lit (.int .i64 5))))]) (by kernel_rfl) rfl (.inr rfl) ?_
      refine vc_nil ?_
      show Value.tuple #[nums [0, 0], I 5] = _
      rw [signP_small hr h8]
      rfl
    · refine Jd.go2 (E := E_signread_2) 1 [bts l] rfl rfl rfl [.call 13 ⟨none, [.one (.sv 1)], .tup [.one .v, .one .v]⟩ [.one (.rc (.all 0))] 1, .tupc 1 0 2, .tupc 1 1 3, .isAgg 2 8, .bin .eql 29 (.at (.one (.var 3))) (.at (.one (.lit (.int .i64 0)))) 4, .isBool 4 true, .isAgg 2 8, .isBool 4 true, .call 39 ⟨none, [.one .v], .two (.one .v)⟩ [.one (.a (.var 2))] 5, .isBool 4 true, .isBool 5 false, .isAgg 2 8, .isAgg 2 8] (by kernel_rfl) ?_
      refine vc_call c_readPk (ds := [bts l]) (r := Value.tuple #[PV p, I 0]) (fun _ => rfl) rfl (⟨_, hb, hn, rfl, by rw [hr]; rfl⟩) ?_
      refine vc_tupc (fun _ => rfl) rfl rfl ?_
      refine vc_tupc (fun _ => rfl) rfl rfl ?_
      refine vc_isAgg rfl rfl rfl ?_
      refine vc_cmp (op := .eql) (x := 0) (y := (0 : Nat)) (k := .i64) (t := decide (0 = 0)) (by exact fun _ => rfl) (by exact fun _ => rfl) rfl rfl ?_
      refine vc_isBool (rfl) ?_
      refine vc_isAgg rfl rfl rfl ?_
      refine vc_isBool (rfl) ?_
      refine vc_call c_smallP (ds := [PV p]) (r := Bo (decide (Ed.smul 8 p = 0))) (fun _ => rfl) rfl (⟨_, rfl, rfl⟩) ?_
      refine vc_isBool (rfl) ?_
      refine vc_isBool (by show Bo (decide _) = _; rw [decide_eq_false h8]; rfl) ?_
      refine vc_isAgg rfl rfl rfl ?_
      refine vc_isAgg rfl rfl rfl ?_
      refine vc_nil ?_
      refine JF.ret (by kernel_rfl) ?_
      refine hE.fin3 6 [Bo (decide (Ed.smul 8 p = 0)), Bo (decide (0 = 0)), I 0, PV p, Value.tuple #[PV p, I 0], bts l] rfl rfl (cm := [.isAgg 2 8]) (ds := [.v (.at (.one (.var 2))), .v (.at (.one (.var 3)))]) (by kernel_rfl) rfl (.inr rfl) ?_
      refine vc_isAgg rfl rfl rfl ?_
      refine vc_nil ?_
      show Value.tuple #[PV p, I 0] = _
      rw [signP_ok hr h8]
      rfl

noncomputable def E_signgood_0 : Option Ran := ex1 (cfg 11) (fun n => none) 0 4000 30000 1 (inSt ((s1v 1))) [.c (bodyOf Try.f48)] .nor
noncomputable def E_signgood_1 : Option Ran := ex1 (cfg 11) (fun n => none) 0 4000 50000 1 (inSt ((s1v 1))) [.c (bodyOf Try.f48)] .nor
theorem c_signgood : Ctr Try.prog glb0 48 (s1v 1) (fun ds r => ∃ l, isB l ∧ l.length < 2 ^ 60 ∧ ds = [bts l] ∧ r = I (errN (signP (decide (l.length = 32)) (le l)))) := by
  refine ctr (C := cfg 11) mixed ti_ok Try.func48 (by kernel_rfl) ?_
  rintro ds r X Q hl ⟨l, hb, hn, rfl, rfl⟩ hE
  rcases hr : signP (decide (l.length = 32)) (le l) with n | p
  · refine Jd.go2 (E := E_signgood_0) 1 [bts l] rfl rfl rfl [.call 74 ⟨none, [.one (.sv 1)], .tup [.one .v, .one .v]⟩ [.one (.rc (.all 0))] 1, .tupc 1 0 2, .tupc 1 1 3, .isAgg 2 8] (by kernel_rfl) ?_
    refine vc_call c_signread (ds := [bts l]) (r := Value.tuple #[nums [0, 0], I n]) (fun _ => rfl) rfl (⟨_, hb, hn, rfl, by rw [hr]; rfl⟩) ?_
    refine vc_tupc (fun _ => rfl) rfl rfl ?_
    refine vc_tupc (fun _ => rfl) rfl rfl ?_
    refine vc_isAgg rfl rfl rfl ?_
    refine vc_nil ?_
    refine JF.ret (by kernel_rfl) ?_
    refine hE.fin3 4 [I n, nums [0, 0], Value.tuple #[nums [0, 0], I n], bts l] rfl rfl (cm := []) (ds := [.v (.at (.one (.var 3)))]) (by kernel_rfl) rfl (.inr rfl) ?_
    refine vc_nil ?_
    show I n = _
    rw [hr]
    rfl
  · refine Jd.go2 (E := E_signgood_1) 1 [bts l] rfl rfl rfl [.call 74 ⟨none, [.one (.sv 1)], .tup [.one .v, .one .v]⟩ [.one (.rc (.all 0))] 1, .tupc 1 0 2, .tupc 1 1 3, .isAgg 2 8] (by kernel_rfl) ?_
    refine vc_call c_signread (ds := [bts l]) (r := Value.tuple #[PV p, I 0]) (fun _ => rfl) rfl (⟨_, hb, hn, rfl, by rw [hr]; rfl⟩) ?_
    refine vc_tupc (fun _ => rfl) rfl rfl ?_
    refine vc_tupc (fun _ => rfl) rfl rfl ?_
    refine vc_isAgg rfl rfl rfl ?_
    refine vc_nil ?_
    refine JF.ret (by kernel_rfl) ?_
    refine hE.fin3 4 [I 0, PV p, Value.tuple #[PV p, I 0], bts l] rfl rfl (cm := []) (ds := [.v (.at (.one (.var 3)))]) (by kernel_rfl) rfl (.inr rfl) ?_
    refine vc_nil ?_
    show I 0 = _
    rw [hr]
    rfl

noncomputable def E_ofpublic_0 : Option Ran := ex1 (cfg 20) (fun n => if n = 2 then some true else none) 0 4000 30000 1 (inSt ((s1st 1))) [.c (bodyOf Try.f47)] .nor
noncomputable def E_ofpublic_1 : Option Ran := ex1 (cfg 20) (fun n => if n = 2 then some false else none) 0 4000 50000 1 (inSt ((s1st 1))) [.c (bodyOf Try.f47)] .nor
theorem c_ofpublic : Ctr Try.prog glb0 47 (s1st 1) (fun ds r => ∃ l, isB l ∧ l.length < 2 ^ 60 ∧ ds = [bts l] ∧ r = (match signP (decide (l.length = 32)) (le l) with | .ok p => Value.tuple #[bts (bytesOf 32 ((1 + p.y) * inv (1 - p.y)).val), I 0] | .error m => Value.tuple #[bts [], I m])) := by
  refine ctr (C := cfg 20) mixed ti_ok Try.func47 (by kernel_rfl) ?_
  rintro ds r X Q hl ⟨l, hb, hn, rfl, rfl⟩ hE
  rcases hr : signP (decide (l.length = 32)) (le l) with n | p
  · rw [hr] at hE
    have hn0 := signP_ne hr
    refine Jd.go2 (E := E_ofpublic_0) 1 [bts l] rfl rfl rfl [.call 48 ⟨none, [.one (.sv 1)], .two (.one .v)⟩ [.one (.rc (.all 0))] 1, .bin .neq 29 (.at (.one (.var 1))) (.at (.one (.lit (.int .i64 0)))) 2, .isBool 2 true] (by kernel_rfl) ?_
    refine vc_call c_signgood (ds := [bts l]) (r := I n) (fun _ => rfl) rfl (⟨_, hb, hn, rfl, by rw [hr]; rfl⟩) ?_
    refine vc_cmp (op := .neq) (x := n) (y := (0 : Nat)) (k := .i64) (t := !decide (n = 0)) (by exact fun _ => rfl) (by exact fun _ => rfl) rfl rfl ?_
    refine vc_isBool (by show Bo (!decide _) = _; rw [decide_eq_false hn0]; rfl) ?_
    refine vc_nil ?_
    refine JF.ret (by kernel_rfl) ?_
    refine hE.fin3 3 [Bo (!decide (n = 0)), I n, bts l] rfl rfl (cm := []) (ds := [.r (.lst []), .v (.at (.one (.var 1)))]) (by kernel_rfl) rfl (.inr rfl) ?_
    refine vc_nil ?_
    show Value.tuple #[nums [], I n] = _
    rfl
  · rw [hr] at hE
    have hr2 := signP_inv hr
    refine Jd.go2 (E := E_ofpublic_1) 1 [bts l] rfl rfl rfl [.call 48 ⟨none, [.one (.sv 1)], .two (.one .v)⟩ [.one (.rc (.all 0))] 1, .bin .neq 29 (.at (.one (.var 1))) (.at (.one (.lit (.int .i64 0)))) 2, .isBool 2 false, .call 13 ⟨none, [.one (.sv 1)], .tup [.one .v, .one .v]⟩ [.one (.rc (.all 0))] 3, .tupc 3 0 4, .tupc 3 1 5, .isAgg 4 8, .isAgg 4 8, .call 38 ⟨none, [.one .v], .two (.one .v)⟩ [.one (.a (.var 4))] 6, .call 37 ⟨none, [.one .v], .two (.one (.s 1 5))⟩ [.one (.a (.var 6))] 7] (by kernel_rfl) ?_
    refine vc_call c_signgood (ds := [bts l]) (r := I 0) (fun _ => rfl) rfl (⟨_, hb, hn, rfl, by rw [hr]; rfl⟩) ?_
    refine vc_cmp (op := .neq) (x := 0) (y := (0 : Nat)) (k := .i64) (t := !decide (0 = 0)) (by exact fun _ => rfl) (by exact fun _ => rfl) rfl rfl ?_
    refine vc_isBool (rfl) ?_
    refine vc_call c_readPk (ds := [bts l]) (r := Value.tuple #[PV p, I 0]) (fun _ => rfl) rfl (⟨_, hb, hn, rfl, by rw [hr2]; rfl⟩) ?_
    refine vc_tupc (fun _ => rfl) rfl rfl ?_
    refine vc_tupc (fun _ => rfl) rfl rfl ?_
    refine vc_isAgg rfl rfl rfl ?_
    refine vc_isAgg rfl rfl rfl ?_
    refine vc_call c_mont (ds := [PV p]) (r := fn [(1 + p.y) * inv (1 - p.y)]) (fun _ => rfl) rfl (⟨_, rfl, rfl⟩) ?_
    refine vc_call c_bytes (ds := [nums [((1 + p.y) * inv (1 - p.y)).val]]) (r := bts (bytesOf 32 ((1 + p.y) * inv (1 - p.y)).val)) (fun _ => rfl) rfl (⟨_, (F_lt ((1 + p.y) * inv (1 - p.y))), rfl, rfl⟩) ?_
    refine vc_nil ?_
    refine JF.ret (by kernel_rfl) ?_
    refine hE.fin3 8 [bts (bytesOf 32 ((1 + p.y) * inv (1 - p.y)).val), fn [(1 + p.y) * inv (1 - p.y)], I 0, PV p, Value.tuple #[PV p, I 0], Bo (!decide (0 = 0)), I 0, bts l] rfl rfl (cm := []) (ds := [.r (.all 7), .v (.at (.one (.lit (.int .i64 0))))]) (by kernel_rfl) rfl (.inr rfl) ?_
    refine vc_nil ?_
    show Value.tuple #[bts (bytesOf 32 ((1 + p.y) * inv (1 - p.y)).val), I 0] = _
    rfl

noncomputable def E_number_0 : Option Ran := ex1 (cfg 22) (fun _ => none) 0 4000 30000 1 (inSt ((s1t 1))) [.c (bodyOf Try.f87)] .nor
theorem c_number : Ctr Try.prog glb0 87 (s1t 1) (fun ds r => ∃ l, isB l ∧ l.length < 2 ^ 60 ∧ ds = [bts l] ∧ r = Value.tuple #[nums [clampN (if l.length = 32 then le l else 0)], I (if l.length = 32 then 0 else 3)]) := by
  refine ctr (C := cfg 22) mixed ti_ok Try.func87 (by kernel_rfl) ?_
  rintro ds r X Q hl ⟨l, hb, hn, rfl, rfl⟩ hE
  obtain ⟨m, hm⟩ : ∃ m, m = (if l.length = 32 then le l else 0) := ⟨_, rfl⟩
  obtain ⟨e, he⟩ : ∃ e, e = (if l.length = 32 then 0 else 3) := ⟨_, rfl⟩
  rw [← hm, ← he] at hE
  have hmW : m < 115792089237316195423570985008687907853269984665640564039457584007913129639936 := by
    rw [hm]
    split
    · rename_i h
      have h2 := le_lt l hb
      rw [h] at h2
      exact Nat.lt_of_lt_of_le h2 (by decide)
    · decide
  obtain ⟨w0, w1, w2, w3, a0, a1, a2, a3, en, nn⟩ := nums_split hmW
  refine Jd.go2 (E := E_number_0) 1 [bts l] rfl rfl rfl [.call 16 ⟨none, [.one (.sv 1)], .tup [.one .v, .one .v]⟩ [.one (.rc (.all 0))] 1, .tupc 1 0 2, .tupc 1 1 3, .isAgg 2 4, .bin .andNot 24 (.at (.one (.part 2 0 4))) (.at (.one (.lit (.int .u64 7)))) 4, .isOne (.var 4), .bin .andNot 24 (.at (.one (.part 2 3 4))) (.at (.one (.lit (.int .u64 13835058055282163712)))) 5, .bin .or 24 (.at (.one (.var 5))) (.at (.one (.lit (.int .u64 4611686018427387904)))) 6, .isOne (.var 6)] (by kernel_rfl) ?_
  refine vc_call c_of (ds := [bts l]) (r := Value.tuple #[Value.agg #[U w0, U w1, U w2, U w3], I e]) (fun _ => rfl) rfl (⟨l, hb, hn, rfl, by rw [← nn, hm, he]; split <;> rfl⟩) ?_
  refine vc_tupc (fun _ => rfl) rfl rfl ?_
  refine vc_tupc (fun _ => rfl) rfl rfl ?_
  refine vc_isAgg rfl rfl rfl ?_
  refine vc_andn64 (x := w0) (y := 7) (by exact fun _ => rfl) (by exact fun _ => rfl) (by omega) (by decide) rfl ?_
  rw [strike3 a0]
  refine vc_isOne rfl ?_
  refine vc_andn64 (x := w3) (y := 13835058055282163712) (by exact fun _ => rfl) (by exact fun _ => rfl) (by omega) (by decide) rfl ?_
  rw [strike62]
  refine vc_or64 (x := w3 % 4611686018427387904) (y := 4611686018427387904) (by exact fun _ => rfl) (by exact fun _ => rfl) rfl (by omega) (by decide) fun w hw => ?_
  subst hw
  refine vc_isOne rfl ?_
  refine vc_nil ?_
  refine JF.ret (by kernel_rfl) ?_
  refine hE.fin3 7 [U (w3 % 4611686018427387904 ||| 4611686018427387904), U (w3 % 4611686018427387904), U (w0 / 8 * 8), I e, Value.agg #[U w0, U w1, U w2, U w3], Value.tuple #[Value.agg #[U w0, U w1, U w2, U w3], I e], bts l] rfl rfl (cm := []) (ds := [.v (.at (.agg [.var 4, .part 2 1 4, .part 2 2 4, .var 6])), .v (.at (.one (.var 3)))]) (by kernel_rfl) rfl (.inr rfl) ?_
  refine vc_nil ?_
  show Value.tuple #[_, I e] = _
  rw [clamp_words a0 a1 a2 en]
  rfl

noncomputable def E_dialpublic_0 : Option Ran := ex1 (cfg 18) (fun n => if n = 4 then some true else none) 0 4000 30000 1 (inSt ((s1st 1))) [.c (bodyOf Try.f73)] .nor
theorem c_dialpublic : Ctr Try.prog glb0 73 (s1st 1) (fun ds r => ∃ l, isB l ∧ l.length < 2 ^ 60 ∧ ds = [bts l] ∧ ¬ l.length = 32 ∧ r = Value.tuple #[bts [], I 3]) := by
  refine ctr (C := cfg 18) mixed ti_ok Try.func73 (by kernel_rfl) ?_
  rintro ds r X Q hl ⟨l, hb, hn, rfl, h32, rfl⟩ hE
  refine Jd.go2 (E := E_dialpublic_0) 1 [bts l] rfl rfl rfl [.call 87 ⟨none, [.one (.sv 1)], .tup [.one .v, .one .v]⟩ [.one (.rc (.all 0))] 1, .tupc 1 0 2, .tupc 1 1 3, .isAgg 2 4, .bin .neq 29 (.at (.one (.var 3))) (.at (.one (.lit (.int .i64 0)))) 4, .isBool 4 true] (by kernel_rfl) ?_
  refine vc_call c_number (ds := [bts l]) (r := Value.tuple #[nums [clampN 0], I 3]) (fun _ => rfl) rfl (⟨_, hb, hn, rfl, by rw [if_neg h32, if_neg h32]⟩) ?_
  refine vc_tupc (fun _ => rfl) rfl rfl ?_
  refine vc_tupc (fun _ => rfl) rfl rfl ?_
  refine vc_isAgg rfl rfl rfl ?_
  refine vc_cmp (op := .neq) (k := .i64) (x := 3) (y := (0 : Nat)) (t := true) (by exact fun _ => rfl) (by exact fun _ => rfl) rfl rfl ?_
  refine vc_isBool (rfl) ?_
  refine vc_nil ?_
  refine JF.ret (by kernel_rfl) ?_
  refine hE.fin3 5 [Bo true, I 3, nums [clampN 0], Value.tuple #[nums [clampN 0], I 3], bts l] rfl rfl (cm := []) (ds := [.r (.lst []), .v (.at (.one (.var 3)))]) (by kernel_rfl) rfl (.inr rfl) ?_
  refine vc_nil ?_
  show Value.tuple #[nums [], I 3] = _
  rfl

noncomputable def E_awake11_0 : Option Ran := ex1 (cfg 10) (fun _ => none) 0 4000 30000 0 (inSt (v0)) [.c (bodyOf Try.f46)] .nor
theorem c_awake11 : Ctr Try.prog glb0 46 v0 (Φ0 (Bo true)) := by
  refine ctr (C := cfg 10) mixed ti_ok Try.func46 (by kernel_rfl) ?_
  rintro ds r X Q hl ⟨rfl, rfl⟩ hE
  refine Jd.go2 (E := E_awake11_0) 0 [] rfl rfl rfl [.call 73 ⟨none, [.one (.sv 1)], .tup [.one (.s 1 5), .one .v]⟩ [.one (.rc (.lst [.lit (.int .u8 0), .lit (.int .u8 0), .lit (.int .u8 0), .lit (.int .u8 0), .lit (.int .u8 0), .lit (.int .u8 0), .lit (.int .u8 0), .lit (.int .u8 0), .lit (.int .u8 0), .lit (.int .u8 0), .lit (.int .u8 0), .lit (.int .u8 0), .lit (.int .u8 0), .lit (.int .u8 0), .lit (.int .u8 0), .lit (.int .u8 0), .lit (.int .u8 0), .lit (.int .u8 0), .lit (.int .u8 0), .lit (.int .u8 0), .lit (.int .u8 0), .lit (.int .u8 0), .lit (.int .u8 0), .lit (.int .u8 0), .lit (.int .u8 0), .lit (.int .u8 0), .lit (.int .u8 0), .lit (.int .u8 0), .lit (.int .u8 0), .lit (.int .u8 0), .lit (.int .u8 0)]))] 0, .tupc 0 0 1, .tupc 0 1 2, .bin .eql 29 (.at (.one (.var 2))) (.at (.one (.lit (.int .i64 3)))) 3] (by kernel_rfl) ?_
  refine vc_call c_dialpublic (ds := [bts [0, 0, 0, 0, 0, 0, 0, 0, 0, 0, 0, 0, 0, 0, 0, 0, 0, 0, 0, 0, 0, 0, 0, 0, 0, 0, 0, 0, 0, 0, 0]]) (r := Value.tuple #[bts [], I 3]) (fun _ => rfl) rfl (⟨_, (by intro b hb; simp at hb; omega), (by show 31 < 2 ^ 60; decide), rfl, (by decide), rfl⟩) ?_
  refine vc_tupc (fun _ => rfl) rfl rfl ?_
  refine vc_tupc (fun _ => rfl) rfl rfl ?_
  refine vc_cmp (op := .eql) (k := .i64) (x := 3) (y := (3 : Nat)) (t := true) (by exact fun _ => rfl) (by exact fun _ => rfl) rfl rfl ?_
  refine vc_nil ?_
  refine JF.ret (by kernel_rfl) ?_
  refine hE.fin3 4 [Bo true, I 3, bts [], Value.tuple #[bts [], I 3]] rfl rfl (cm := []) (ds := [.v (.at (.one (.var 3)))]) (by kernel_rfl) rfl (.inr rfl) ?_
  refine vc_nil ?_
  show Bo true = _
  rfl

noncomputable def E_publics_0 : Option Ran := ex1 (cfg 38) (fun n => if n = 2 then some false else if n = 4 then some true else none) 0 4000 30000 1 (inSt ((s1v 1))) [.c (bodyOf Try.f11)] .nor
noncomputable def E_publics_1 : Option Ran := ex1 (cfg 38) (fun n => if n = 2 then some false else if n = 4 then some false else if n = 9 then some true else if n = 10 then some true else none) 0 4000 50000 1 (inSt ((s1v 1))) [.c (bodyOf Try.f11)] .nor
noncomputable def E_publics_2 : Option Ran := ex1 (cfg 38) (fun n => if n = 2 then some false else if n = 4 then some false else if n = 9 then some false else if n = 10 then some true else none) 0 4000 70000 1 (inSt ((s1v 1))) [.c (bodyOf Try.f11)] .nor
theorem c_publics : Ctr Try.prog glb0 11 (s1v 1) (fun ds r => ∃ lx, isB lx ∧ ds = [bts lx] ∧ r = Bo true) := by
  refine ctr (C := cfg 38) mixed ti_ok Try.func11 (by kernel_rfl) ?_
  rintro ds r X Q hl ⟨lx, hbx, rfl, rfl⟩ hE
  obtain ⟨l, hl0⟩ : ∃ l, l = lx := ⟨_, rfl⟩
  subst hl0
  have hb := hbx
  by_cases h100 : 100 < l.length
  · refine Jd.go2 (E := E_publics_0) 1 [bts l] rfl rfl rfl [.call 46 ⟨none, [], .two (.one .v)⟩ [] 1, .un .not (.at (.one (.var 1))) 2, .isBool 2 false, .isBool 2 false, .len 0 1 3, .isBool 2 false, .bin .gtr 3 (.at (.one (.var 3))) (.at (.one (.lit (.int .i64 100)))) 4, .isBool 2 false, .isBool 4 true, .call 46 ⟨none, [], .two (.one .v)⟩ [] 5] (by kernel_rfl) ?_
    refine vc_call c_awake11 (ds := []) (r := Bo true) (fun _ => rfl) rfl (⟨rfl, rfl⟩) ?_
    refine vc_not (fun _ => rfl) rfl ?_
    refine vc_isBool (rfl) ?_
    refine vc_isBool (rfl) ?_
    refine vc_len (k := l.length) (by exact fun _ => rfl) (by simp) rfl ?_
    refine vc_isBool (rfl) ?_
    refine vc_cmp (op := .gtr) (x := l.length) (y := (100 : Nat)) (k := .i64) (t := decide (100 < l.length)) (by exact fun _ => rfl) (by exact fun _ => rfl) rfl rfl ?_
    refine vc_isBool (rfl) ?_
    refine vc_isBool (by show Bo (decide _) = _; rw [decide_eq_true h100]; rfl) ?_
    refine vc_call c_awake11 (ds := []) (r := Bo true) (fun _ => rfl) rfl (⟨rfl, rfl⟩) ?_
    refine vc_nil ?_
    refine JF.ret (by kernel_rfl) ?_
    refine hE.fin3 6 [Bo true, Bo (decide (100 < l.length)), I l.length, Bo (!true), Bo true, bts l] rfl rfl (cm := []) (ds := [.v (.at (.one (.var 5)))]) (by kernel_rfl) rfl (.inr rfl) ?_
    refine vc_nil ?_
    show Bo true = _
    rfl
  · have hn : l.length < 2 ^ 60 := Nat.lt_of_le_of_lt (Nat.le_of_not_lt h100) (by decide)
    rcases hr : signP (decide (l.length = 32)) (le l) with n | p
    · have hn0 := signP_ne hr
      refine Jd.go2 (E := E_publics_1) 1 [bts l] rfl rfl rfl [.call 46 ⟨none, [], .two (.one .v)⟩ [] 1, .un .not (.at (.one (.var 1))) 2, .isBool 2 false, .isBool 2 false, .len 0 1 3, .isBool 2 false, .bin .gtr 3 (.at (.one (.var 3))) (.at (.one (.lit (.int .i64 100)))) 4, .isBool 2 false, .isBool 4 false, .call 47 ⟨none, [.one (.sv 1)], .tup [.one (.s 1 5), .one .v]⟩ [.one (.rc (.all 0))] 5, .tupc 5 0 6, .tupc 5 1 7, .call 48 ⟨none, [.one (.sv 1)], .two (.one .v)⟩ [.one (.rc (.all 0))] 8, .bin .neq 29 (.at (.one (.var 8))) (.at (.one (.lit (.int .i64 0)))) 9, .isBool 9 true, .bin .eql 29 (.at (.one (.var 7))) (.at (.one (.var 8))) 10, .isBool 10 true, .isBool 10 true, .len 6 1 11, .isBool 10 true, .bin .eql 3 (.at (.one (.var 11))) (.at (.one (.lit (.int .i64 0)))) 12, .isBool 10 true] (by kernel_rfl) ?_
      refine vc_call c_awake11 (ds := []) (r := Bo true) (fun _ => rfl) rfl (⟨rfl, rfl⟩) ?_
      refine vc_not (fun _ => rfl) rfl ?_
      refine vc_isBool (rfl) ?_
      refine vc_isBool (rfl) ?_
      refine vc_len (k := l.length) (by exact fun _ => rfl) (by simp) rfl ?_
      refine vc_isBool (rfl) ?_
      refine vc_cmp (op := .gtr) (x := l.length) (y := (100 : Nat)) (k := .i64) (t := decide (100 < l.length)) (by exact fun _ => rfl) (by exact fun _ => rfl) rfl rfl ?_
      refine vc_isBool (rfl) ?_
      refine vc_isBool (by show Bo (decide _) = _; rw [decide_eq_false h100]; rfl) ?_
      refine vc_call c_ofpublic (ds := [bts l]) (r := Value.tuple #[bts [], I n]) (fun _ => rfl) rfl (⟨_, hb, hn, rfl, by rw [hr]⟩) ?_
      refine vc_tupc (fun _ => rfl) rfl rfl ?_
      refine vc_tupc (fun _ => rfl) rfl rfl ?_
      refine vc_call c_signgood (ds := [bts l]) (r := I n) (fun _ => rfl) rfl (⟨_, hb, hn, rfl, by rw [hr]; rfl⟩) ?_
      refine vc_cmp (op := .neq) (x := n) (y := (0 : Nat)) (k := .i64) (t := !decide (n = 0)) (by exact fun _ => rfl) (by exact fun _ => rfl) rfl rfl ?_
      refine vc_isBool (by show Bo (!decide _) = _; rw [decide_eq_false hn0]; rfl) ?_
      refine vc_cmp (op := .eql) (x := n) (y := n) (k := .i64) (t := decide (n = n)) (by exact fun _ => rfl) (by exact fun _ => rfl) rfl rfl ?_
      refine vc_isBool (by show Bo (decide _) = _; rw [decide_eq_true rfl]; rfl) ?_
      refine vc_isBool (by show Bo (decide _) = _; rw [decide_eq_true rfl]; rfl) ?_
      refine vc_len (k := 0) (by exact fun _ => rfl) rfl rfl ?_
      refine vc_isBool (by show Bo (decide _) = _; rw [decide_eq_true rfl]; rfl) ?_
      refine vc_cmp (op := .eql) (x := 0) (y := (0 : Nat)) (k := .i64) (t := decide (0 = 0)) (by exact fun _ => rfl) (by exact fun _ => rfl) rfl rfl ?_
      refine vc_isBool (by show Bo (decide _) = _; rw [decide_eq_true rfl]; rfl) ?_
      refine vc_nil ?_
      refine JF.ret (by kernel_rfl) ?_
      refine hE.fin3 13 [Bo (decide (0 = 0)), I 0, Bo (decide (n = n)), Bo (!decide (n = 0)), I n, I n, bts [], Value.tuple #[bts [], I n], Bo (decide (100 < l.length)), I l.length, Bo (!true), Bo true, bts l] rfl rfl (cm := []) (ds := [.v (.at (.one (.var 12)))]) (by kernel_rfl) rfl (.inr rfl) ?_
      refine vc_nil ?_
      show Bo (decide (0 = 0)) = _
      rfl
    · refine Jd.go2 (E := E_publics_2) 1 [bts l] rfl rfl rfl [.call 46 ⟨none, [], .two (.one .v)⟩ [] 1, .un .not (.at (.one (.var 1))) 2, .isBool 2 false, .isBool 2 false, .len 0 1 3, .isBool 2 false, .bin .gtr 3 (.at (.one (.var 3))) (.at (.one (.lit (.int .i64 100)))) 4, .isBool 2 false, .isBool 4 false, .call 47 ⟨none, [.one (.sv 1)], .tup [.one (.s 1 5), .one .v]⟩ [.one (.rc (.all 0))] 5, .tupc 5 0 6, .tupc 5 1 7, .call 48 ⟨none, [.one (.sv 1)], .two (.one .v)⟩ [.one (.rc (.all 0))] 8, .bin .neq 29 (.at (.one (.var 8))) (.at (.one (.lit (.int .i64 0)))) 9, .isBool 9 false, .bin .eql 29 (.at (.one (.var 7))) (.at (.one (.lit (.int .i64 0)))) 10, .isBool 10 true, .isBool 10 true, .len 6 1 11, .isBool 10 true, .bin .eql 3 (.at (.one (.var 11))) (.at (.one (.lit (.int .i64 32)))) 12, .isBool 10 true] (by kernel_rfl) ?_
      refine vc_call c_awake11 (ds := []) (r := Bo true) (fun _ => rfl) rfl (⟨rfl, rfl⟩) ?_
      refine vc_not (fun _ => rfl) rfl ?_
      refine vc_isBool (rfl) ?_
      refine vc_isBool (rfl) ?_
      refine vc_len (k := l.length) (by exact fun _ => rfl) (by simp) rfl ?_
      refine vc_isBool (rfl) ?_
      refine vc_cmp (op := .gtr) (x := l.length) (y := (100 : Nat)) (k := .i64) (t := decide (100 < l.length)) (by exact fun _ => rfl) (by exact fun _ => rfl) rfl rfl ?_
      refine vc_isBool (rfl) ?_
      refine vc_isBool (by show Bo (decide _) = _; rw [decide_eq_false h100]; rfl) ?_
      refine vc_call c_ofpublic (ds := [bts l]) (r := Value.tuple #[bts (bytesOf 32 ((1 + p.y) * inv (1 - p.y)).val), I 0]) (fun _ => rfl) rfl (⟨_, hb, hn, rfl, by rw [hr]⟩) ?_
      refine vc_tupc (fun _ => rfl) rfl rfl ?_
      refine vc_tupc (fun _ => rfl) rfl rfl ?_
      refine vc_call c_signgood (ds := [bts l]) (r := I 0) (fun _ => rfl) rfl (⟨_, hb, hn, rfl, by rw [hr]; rfl⟩) ?_
      refine vc_cmp (op := .neq) (x := 0) (y := (0 : Nat)) (k := .i64) (t := !decide (0 = 0)) (by exact fun _ => rfl) (by exact fun _ => rfl) rfl rfl ?_
      refine vc_isBool (rfl) ?_
      refine vc_cmp (op := .eql) (x := 0) (y := (0 : Nat)) (k := .i64) (t := decide (0 = 0)) (by exact fun _ => rfl) (by exact fun _ => rfl) rfl rfl ?_
      refine vc_isBool (rfl) ?_
      refine vc_isBool (rfl) ?_
      refine vc_len (k := 32) (by exact fun _ => rfl) (by simp [bytesOf_len]) rfl ?_
      refine vc_isBool (rfl) ?_
      refine vc_cmp (op := .eql) (x := 32) (y := (32 : Nat)) (k := .i64) (t := decide (32 = 32)) (by exact fun _ => rfl) (by exact fun _ => rfl) rfl rfl ?_
      refine vc_isBool (rfl) ?_
      refine vc_nil ?_
      refine JF.ret (by kernel_rfl) ?_
      refine hE.fin3 13 [Bo (decide (32 = 32)), I 32, Bo (decide (0 = 0)), Bo (!decide (0 = 0)), I 0, I 0, bts (bytesOf 32 ((1 + p.y) * inv (1 - p.y)).val), Value.tuple #[bts (bytesOf 32 ((1 + p.y) * inv (1 - p.y)).val), I 0], Bo (decide (100 < l.length)), I l.length, Bo (!true), Bo true, bts l] rfl rfl (cm := []) (ds := [.v (.at (.one (.var 12)))]) (by kernel_rfl) rfl (.inr rfl) ?_
      refine vc_nil ?_
      show Bo (decide (32 = 32)) = _
      rfl

end Go.Proofs.Ytpeafegfjhljmaa

/-
  DialPublics: bytes that are no public ones lead to none: for every input, without a condition.
-/
open Go Go.Sx Go.Proofs Go.ChangeShapes Go.WideShapes Go.ChangeAt
open Ed (F P inv pw Pt)
namespace Go.Proofs.Ytpeafegfjhljmaa
set_option maxRecDepth 100000
set_option maxHeartbeats 4000000
theorem own : ownKnob Try.prog.godebug = none := by kernel_rfl
theorem laidOut : laidOutB Try.prog = true := by kernel_rfl
theorem publics_lifted (os : Os) (started : os.Started) (H : Type) (enc : TypeId × Value → H) :
    ReturnsInHanded {} Try.checked os 11 .any (Rows.dialPublicsSpec.pre6 enc Try.prog Try.f11 Rows.dialPublicsRow.domain false) (Rows.dialPublicsSpec.post enc Try.prog Try.f11 false true false false) := by
  refine returnsInHanded_of_change (C := Try.checked) own started (by kernel_rfl) Try.func11
    (ChangeSpec.witness6 (enc := enc) (C := Try.checked) false ⟨#[], #[.slice none 0 0], []⟩ 100 (by kernel_rfl) (by kernel_rfl) (by kernel_rfl) (by kernel_rfl)) ?_
  intro W base args ds gs before hval hW hcnd _
  have hlt := hW.lt
  have hW0 := hW
  obtain ⟨p, q, hA, hV, rfl, hfz, hnd⟩ := hW0
  obtain ⟨rfl, rfl⟩ := trodVars_none hV
  replace hA : DataW.TrodAll enc Try.prog W 0 (fun _ => true) true [22] args.toList ds p := by rw [show Try.f11.params.toList = [22] by kernel_rfl] at hA; exact hA
  obtain ⟨v0, d0, rfl, rfl, h0⟩ := trodAll_one hA
  obtain ⟨l0, s0, l0b⟩ := open_slice (e := 5) (k := .u8) (by kernel_rfl) (by kernel_rfl) (by kernel_rfl) rfl (hval 0 22 v0 (by kernel_rfl) rfl) h0
  replace l0b : isB l0 := fun x hx => l0b x hx
  have hcall := calls_of_ctr (A := fun _ => True) c_publics Try.func11 (by kernel_rfl) (by kernel_rfl) (w := W) (vs := [_]) (ds := [bts l0]) (r := Bo true) trivial ⟨s0, trivial⟩ ⟨l0, l0b, rfl, rfl⟩
  refine hcall.mono ?_
  rintro e W' ⟨v, rfl, hr, hb⟩
  obtain rfl : v = Bo true := hr
  exact ⟨_, rfl, (law_post laidOut (by kernel_rfl) rfl (tb := 4) (by kernel_rfl) (by kernel_rfl) hW hb rfl).1⟩
theorem publics_holds : Rows.DialPublicsSaid :=
  OpenClaim.holds_of_wide 11 Try.f11 rfl rfl rfl rfl rfl rfl rfl ⟨rfl, rfl, rfl, rfl, rfl⟩ rfl rfl rfl rfl rfl (by kernel_rfl) Try.func11 (by kernel_rfl)
    (of_decide_eq_true (by kernel_rfl)) (by unfold Func.isWrapper; rw [if_neg (by decide +kernel)]; exact ⟨rfl, rfl⟩)
    (fun os started H enc _ => publics_lifted os started H enc)
end Go.Proofs.Ytpeafegfjhljmaa
