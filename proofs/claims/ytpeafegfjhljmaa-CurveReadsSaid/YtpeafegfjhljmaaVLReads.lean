/- CurveReads: any bytes are read as a point, or not: what is read is one, and has just those bytes; of what is not read no point has these: for every input, without a condition. -/
import Derived.Test.YtpeafegfjhljmaaVS
import Derived.Test.YtpeafegfjhljmaaVE
import Derived.Test.YtpeafegfjhljmaaVP
import Derived.Test.YtpeafegfjhljmaaRows
/-
  Functions of the program: what each computes.
-/
open Go Go.Sx Go.Proofs
open Ed (F P inv pw Pt)
namespace Go.Proofs.Ytpeafegfjhljmaa
set_option maxRecDepth 100000
set_option maxHeartbeats 4000000
theorem c_of32 : Ctr Try.prog glb0 16 (s1t 1) (fun ds r => ∃ l, isB l ∧ l.length = 32 ∧ ds = [bts l] ∧ r = .tuple #[nums [le l], I 0]) := c_of.imp fun _ _ ⟨l, hb, h1, h2, h3⟩ => ⟨l, hb, by rw [h1]; decide, h2, by rw [h3, if_pos h1]⟩
noncomputable def E_reads_0 : Option Ran := ex1 (cfg 104) (fun n => if n = 2 then some false else if n = 4 then some true else none) 0 4000 30000 1 (inSt ((s1v 1))) [.c (bodyOf Try.f3)] .nor
noncomputable def E_reads_1 : Option Ran := ex1 (cfg 104) (fun n => if n = 2 then some false else if n = 4 then some false else if n = 9 then some false else if n = 10 then some false else if n = 20 then some false else if n = 21 then some false else if n = 24 then some false else if n = 35 then some false else if n = 13 then some true else none) 0 4000 50000 1 (inSt ((s1v 1))) [.c (bodyOf Try.f3)] .nor
noncomputable def E_reads_2 : Option Ran := ex1 (cfg 104) (fun n => if n = 2 then some false else if n = 4 then some false else if n = 9 then some false else if n = 10 then some false else if n = 20 then some false else if n = 21 then some false else if n = 24 then some false else if n = 35 then some true else none) 0 4000 70000 1 (inSt ((s1v 1))) [.c (bodyOf Try.f3)] .nor
noncomputable def E_reads_3 : Option Ran := ex1 (cfg 104) (fun n => if n = 2 then some false else if n = 4 then some false else if n = 9 then some false else if n = 10 then some false else if n = 20 then some false else if n = 21 then some false else if n = 24 then some true else none) 0 4000 90000 1 (inSt ((s1v 1))) [.c (bodyOf Try.f3)] .nor
noncomputable def E_reads_4 : Option Ran := ex1 (cfg 104) (fun n => if n = 2 then some false else if n = 4 then some false else if n = 9 then some false else if n = 10 then some true else if n = 11 then some true else none) 0 4000 110000 1 (inSt ((s1v 1))) [.c (bodyOf Try.f3)] .nor
noncomputable def E_reads_5 : Option Ran := ex1 (cfg 104) (fun n => if n = 2 then some false else if n = 4 then some false else if n = 9 then some true else if n = 10 then some true else none) 0 4000 130000 1 (inSt ((s1v 1))) [.c (bodyOf Try.f3)] .nor
theorem c_reads : Ctr Try.prog glb0 3 (s1v 1) (fun ds r => ∃ lx, isB lx ∧ ds = [bts lx] ∧ r = Bo true) := by
  refine ctr (C := cfg 104) mixed ti_ok Try.func3 (by kernel_rfl) ?_
  rintro ds r X Q hl ⟨lx, hbx, rfl, rfl⟩ hE
  by_cases h100 : 100 < lx.length
  · refine Jd.go2 (E := E_reads_0) 1 [bts lx] rfl rfl rfl [.call 12 ⟨none, [], .two (.one .v)⟩ [] 1, .un .not (.at (.one (.var 1))) 2, .isBool 2 false, .isBool 2 false, .len 0 1 3, .isBool 2 false, .bin .gtr 3 (.at (.one (.var 3))) (.at (.one (.lit (.int .i64 100)))) 4, .isBool 2 false, .isBool 4 true, .call 12 ⟨none, [], .two (.one .v)⟩ [] 5] (by kernel_rfl) ?_
    refine vc_call c_awake9 (ds := []) (r := Bo true) (fun _ => rfl) rfl (⟨rfl, rfl⟩) ?_
    refine vc_not (fun _ => rfl) rfl ?_
    refine vc_isBool (rfl) ?_
    refine vc_isBool (rfl) ?_
    refine vc_len (k := lx.length) (by exact fun _ => rfl) (by simp) rfl ?_
    refine vc_isBool (rfl) ?_
    refine vc_cmp (op := .gtr) (x := lx.length) (y := (100 : Nat)) (k := .i64) (t := decide (100 < lx.length)) (by exact fun _ => rfl) (by exact fun _ => rfl) rfl rfl ?_
    refine vc_isBool (rfl) ?_
    refine vc_isBool (by show Bo (decide _) = _; rw [decide_eq_true h100]; rfl) ?_
    refine vc_call c_awake9 (ds := []) (r := Bo true) (fun _ => rfl) rfl (⟨rfl, rfl⟩) ?_
    refine vc_nil ?_
    refine JF.ret (by kernel_rfl) ?_
    refine hE.fin3 6 [Bo true, Bo (decide (100 < lx.length)), I lx.length, Bo (!true), Bo true, bts lx] rfl rfl (cm := []) (ds := [.v (.at (.one (.var 5)))]) (by kernel_rfl) rfl (.inr rfl) ?_
    refine vc_nil ?_
    show Bo true = _
    rfl
  · have h60 : lx.length < 2 ^ 60 := Nat.lt_of_le_of_lt (Nat.le_of_not_lt h100) (by decide)
    by_cases h32 : lx.length = 32
    · obtain ⟨x0, x1, x2, x3, x4, x5, x6, x7, x8, x9, x10, x11, x12, x13, x14, x15, x16, x17, x18, x19, x20, x21, x22, x23, x24, x25, x26, x27, x28, x29, x30, x31, rfl⟩ := list32 h32
      have hn := le_lt [x0, x1, x2, x3, x4, x5, x6, x7, x8, x9, x10, x11, x12, x13, x14, x15, x16, x17, x18, x19, x20, x21, x22, x23, x24, x25, x26, x27, x28, x29, x30, x31] hbx
      rw [h32] at hn
      rcases hr : Ed.readP true (le [x0, x1, x2, x3, x4, x5, x6, x7, x8, x9, x10, x11, x12, x13, x14, x15, x16, x17, x18, x19, x20, x21, x22, x23, x24, x25, x26, x27, x28, x29, x30, x31]) with n | p
      · obtain ⟨rfl, hx⟩ := readP_error hr
        have hu : isB [x0, x1, x2, x3, x4, x5, x6, x7, x8, x9, x10, x11, x12, x13, x14, x15, x16, x17, x18, x19, x20, x21, x22, x23, x24, x25, x26, x27, x28, x29, x30] := fun b hb => hbx b (List.mem_append_left [x31] hb)
        have ht : x31 < 256 := hbx x31 (List.mem_append_right [x0, x1, x2, x3, x4, x5, x6, x7, x8, x9, x10, x11, x12, x13, x14, x15, x16, x17, x18, x19, x20, x21, x22, x23, x24, x25, x26, x27, x28, x29, x30] (List.mem_singleton.2 rfl))
        obtain ⟨t1, t2⟩ := le_top (u := [x0, x1, x2, x3, x4, x5, x6, x7, x8, x9, x10, x11, x12, x13, x14, x15, x16, x17, x18, x19, x20, x21, x22, x23, x24, x25, x26, x27, x28, x29, x30]) hu rfl ht
        obtain ⟨m, hm⟩ : ∃ m, m = le [x0, x1, x2, x3, x4, x5, x6, x7, x8, x9, x10, x11, x12, x13, x14, x15, x16, x17, x18, x19, x20, x21, x22, x23, x24, x25, x26, x27, x28, x29, x30, x31 % 128] := ⟨_, rfl⟩
        have hm2 : m = le [x0, x1, x2, x3, x4, x5, x6, x7, x8, x9, x10, x11, x12, x13, x14, x15, x16, x17, x18, x19, x20, x21, x22, x23, x24, x25, x26, x27, x28, x29, x30, x31] % 2 ^ 255 := hm.trans t1
        have hmW : m < 115792089237316195423570985008687907853269984665640564039457584007913129639936 := by have h := p255; rw [hm2]; exact Nat.lt_of_lt_of_le (Nat.mod_lt _ (by decide)) (by decide)
        have hb2 : isB [x0, x1, x2, x3, x4, x5, x6, x7, x8, x9, x10, x11, x12, x13, x14, x15, x16, x17, x18, x19, x20, x21, x22, x23, x24, x25, x26, x27, x28, x29, x30, x31 % 128] := by intro b hb; rcases List.mem_append.1 (show b ∈ [x0, x1, x2, x3, x4, x5, x6, x7, x8, x9, x10, x11, x12, x13, x14, x15, x16, x17, x18, x19, x20, x21, x22, x23, x24, x25, x26, x27, x28, x29, x30] ++ [x31 % 128] from hb) with h | h; exact hu b h; simp at h; omega
        have hmod : (fun _ : Unit => m) = fun _ => m := rfl
        by_cases hP : m < P
        · have hq : (⟨le [x0, x1, x2, x3, x4, x5, x6, x7, x8, x9, x10, x11, x12, x13, x14, x15, x16, x17, x18, x19, x20, x21, x22, x23, x24, x25, x26, x27, x28, x29, x30, x31] % 2 ^ 255, by rw [← hm2]; exact hP⟩ : F) = ofN m := Fin.ext (by show le [x0, x1, x2, x3, x4, x5, x6, x7, x8, x9, x10, x11, x12, x13, x14, x15, x16, x17, x18, x19, x20, x21, x22, x23, x24, x25, x26, x27, x28, x29, x30, x31] % 2 ^ 255 = m % P; rw [← hm2, Nat.mod_eq_of_lt hP])
          have hx2 := hx (by rw [← hm2]; exact hP)
          rw [hq] at hx2
          by_cases hs : Ed.isSq (Ed.uv (ofN m)) = true
          · obtain ⟨hodd, hz⟩ := hx2 hs
            have h127 := t2.2 hodd
            refine Jd.go2 (E := E_reads_1) 1 [bts [x0, x1, x2, x3, x4, x5, x6, x7, x8, x9, x10, x11, x12, x13, x14, x15, x16, x17, x18, x19, x20, x21, x22, x23, x24, x25, x26, x27, x28, x29, x30, x31]] rfl rfl rfl [.call 12 ⟨none, [], .two (.one .v)⟩ [] 1, .un .not (.at (.one (.var 1))) 2, .isBool 2 false, .isBool 2 false, .len 0 1 3, .isBool 2 false, .bin .gtr 3 (.at (.one (.var 3))) (.at (.one (.lit (.int .i64 100)))) 4, .isBool 2 false, .isBool 4 false, .call 13 ⟨none, [.one (.sv 1)], .tup [.one .v, .one .v]⟩ [.one (.rc (.all 0))] 5, .tupc 5 0 6, .tupc 5 1 7, .isAgg 6 8, .len 0 1 8, .bin .neq 3 (.at (.one (.var 8))) (.at (.one (.lit (.int .i64 32)))) 9, .isBool 9 false, .bin .eql 29 (.at (.one (.var 7))) (.at (.one (.lit (.int .i64 0)))) 10, .isBool 10 false, .app (.lst []) (.all 0) 5 1 11, .ltlen 31 11 1, .get (.all 11) 31 12, .bin .gtr 5 (.at (.one (.var 12))) (.at (.one (.lit (.int .u8 127)))) 13, .ltlen 31 11 1, .get (.all 11) 31 14, .bin .rem 5 (.at (.one (.var 14))) (.at (.one (.lit (.int .u8 128)))) 15, .ltlen 31 11 1, .isOne (.var 15), .set (.all 11) 31 (.var 15) 16, .call 16 ⟨none, [.one (.sv 1)], .tup [.one .v, .one .v]⟩ [.one (.rc (.all 16))] 17, .tupc 17 0 18, .tupc 17 1 19, .isAgg 18 4, .bin .neq 29 (.at (.one (.var 7))) (.at (.one (.lit (.int .i64 5)))) 20, .isBool 20 false, .isAgg 6 8, .isBool 20 false, .isBool 20 false, .bin .neq 28 (.at (.one (.var 6))) (.at (.agg [.lit (.int .u64 0), .lit (.int .u64 0), .lit (.int .u64 0), .lit (.int .u64 0), .lit (.int .u64 0), .lit (.int .u64 0), .lit (.int .u64 0), .lit (.int .u64 0)])) 21, .isBool 20 false, .isBool 21 false, .isAgg 18 4, .call 18 ⟨none, [], .two (.one .v)⟩ [] 22, .call 17 ⟨none, [.one .v, .one .v], .two (.one .v)⟩ [.one (.a (.var 18)), .one (.a (.var 22))] 23, .un .not (.at (.one (.var 23))) 24, .isBool 24 false, .isAgg 18 4, .isAgg 18 4, .isAgg 18 4, .isAgg 18 4, .call 20 ⟨none, [.one (.sv 4)], .two (.one .v)⟩ [.one (.rc (.lst [.part 18 0 4, .part 18 1 4, .part 18 2 4, .part 18 3 4, .part 18 0 4, .part 18 1 4, .part 18 2 4, .part 18 3 4]))] 25, .call 21 ⟨none, [.one .v, .one .v], .two (.one .v)⟩ [.one (.a (.var 25)), .agg [.a (.lit (.int .u64 1)), .a (.lit (.int .u64 0)), .a (.lit (.int .u64 0)), .a (.lit (.int .u64 0))]] 26, .call 24 ⟨none, [], .two (.one .v)⟩ [] 27, .isAgg 18 4, .isAgg 18 4, .isAgg 27 4, .isAgg 18 4, .isAgg 18 4, .call 20 ⟨none, [.one (.sv 4)], .two (.one .v)⟩ [.one (.rc (.lst [.part 27 0 4, .part 27 1 4, .part 27 2 4, .part 27 3 4, .part 18 0 4, .part 18 1 4, .part 18 2 4, .part 18 3 4, .part 18 0 4, .part 18 1 4, .part 18 2 4, .part 18 3 4]))] 28, .isAgg 28 4, .call 23 ⟨none, [.one (.sv 4)], .two (.one .v)⟩ [.one (.rc (.lst [.part 28 0 4, .part 28 1 4, .part 28 2 4, .part 28 3 4, .lit (.int .u64 1), .lit (.int .u64 0), .lit (.int .u64 0), .lit (.int .u64 0)]))] 29, .call 22 ⟨none, [.one .v], .two (.one .v)⟩ [.one (.a (.var 29))] 30, .isAgg 26 4, .isAgg 30 4, .call 20 ⟨none, [.one (.sv 4)], .two (.one .v)⟩ [.one (.rc (.lst [.part 26 0 4, .part 26 1 4, .part 26 2 4, .part 26 3 4, .part 30 0 4, .part 30 1 4, .part 30 2 4, .part 30 3 4]))] 31, .call 19 ⟨none, [.one .v], .tup [.one .v, .one .v]⟩ [.one (.a (.var 31))] 32, .tupc 32 0 33, .tupc 32 1 34, .isAgg 33 4, .un .not (.at (.one (.var 34))) 35, .isBool 35 false, .isBool 35 false, .isBool 13 true, .isAgg 33 4, .isBool 13 true, .call 25 ⟨none, [.one .v], .two (.one .v)⟩ [.one (.a (.var 33))] 36, .isBool 35 false, .isBool 13 true, .isBool 35 false] (by kernel_rfl) ?_
            refine vc_call c_awake9 (ds := []) (r := Bo true) (fun _ => rfl) rfl (⟨rfl, rfl⟩) ?_
            refine vc_not (fun _ => rfl) rfl ?_
            refine vc_isBool (rfl) ?_
            refine vc_isBool (rfl) ?_
            refine vc_len (k := 32) (by exact fun _ => rfl) rfl rfl ?_
            refine vc_isBool (rfl) ?_
            refine vc_cmp (op := .gtr) (x := 32) (y := (100 : Nat)) (k := .i64) (t := decide (100 < 32)) (by exact fun _ => rfl) (by exact fun _ => rfl) rfl rfl ?_
            refine vc_isBool (rfl) ?_
            refine vc_isBool (rfl) ?_
            refine vc_call c_readP32 (ds := [bts [x0, x1, x2, x3, x4, x5, x6, x7, x8, x9, x10, x11, x12, x13, x14, x15, x16, x17, x18, x19, x20, x21, x22, x23, x24, x25, x26, x27, x28, x29, x30, x31]]) (r := Value.tuple #[nums [0, 0], I 5]) (fun _ => rfl) rfl (⟨_, hbx, h32, rfl, by rw [hr]; rfl⟩) ?_
            refine vc_tupc (fun _ => rfl) rfl rfl ?_
            refine vc_tupc (fun _ => rfl) rfl rfl ?_
            refine vc_isAgg rfl rfl rfl ?_
            refine vc_len (k := 32) (by exact fun _ => rfl) rfl rfl ?_
            refine vc_cmp (op := .neq) (x := 32) (y := (32 : Nat)) (k := .i64) (t := !decide (32 = 32)) (by exact fun _ => rfl) (by exact fun _ => rfl) rfl rfl ?_
            refine vc_isBool (rfl) ?_
            refine vc_cmp (op := .eql) (x := 5) (y := (0 : Nat)) (k := .i64) (t := decide (5 = 0)) (by exact fun _ => rfl) (by exact fun _ => rfl) rfl rfl ?_
            refine vc_isBool (rfl) ?_
            refine vc_app (by exact fun _ => rfl) (by exact fun _ => rfl) (Nat.le_of_ble_eq_true rfl) rfl ?_
            refine vc_ltlen rfl (Nat.le_of_ble_eq_true rfl) ?_
            refine vc_get (x := IK .u8 x31) (by exact fun _ => rfl) rfl rfl ?_
            refine vc_cmp (op := .gtr) (k := .u8) (x := x31) (y := (127 : Nat)) (t := decide (127 < x31)) (by exact fun _ => rfl) (by exact fun _ => rfl) rfl rfl ?_
            refine vc_ltlen rfl (Nat.le_of_ble_eq_true rfl) ?_
            refine vc_get (x := IK .u8 x31) (by exact fun _ => rfl) rfl rfl ?_
            refine vc_remU (k := .u8) (x := x31) (y := 128) (by exact fun _ => rfl) (by exact fun _ => rfl) (by decide) rfl ?_
            refine vc_ltlen rfl (Nat.le_of_ble_eq_true rfl) ?_
            refine vc_isOne rfl ?_
            refine vc_set (y := IK .u8 (x31 % 128)) (by exact fun _ => rfl) (by exact fun _ => rfl) (Nat.le_of_ble_eq_true rfl) rfl ?_
            refine vc_call c_of32 (ds := [bts [x0, x1, x2, x3, x4, x5, x6, x7, x8, x9, x10, x11, x12, x13, x14, x15, x16, x17, x18, x19, x20, x21, x22, x23, x24, x25, x26, x27, x28, x29, x30, x31 % 128]]) (r := Value.tuple #[nums [m], I 0]) (fun _ => rfl) rfl (⟨_, hb2, rfl, rfl, by rw [hm]⟩) ?_
            refine vc_tupc (fun _ => rfl) rfl rfl ?_
            refine vc_tupc (fun _ => rfl) rfl rfl ?_
            refine vc_isAgg rfl rfl rfl ?_
            refine vc_cmp (op := .neq) (x := 5) (y := (5 : Nat)) (k := .i64) (t := !decide (5 = 5)) (by exact fun _ => rfl) (by exact fun _ => rfl) rfl rfl ?_
            refine vc_isBool (rfl) ?_
            refine vc_isAgg rfl rfl rfl ?_
            refine vc_isBool (rfl) ?_
            refine vc_isBool (rfl) ?_
            refine vc_neqN (m := 2) eqT28 (xs := [0, 0]) (ys := [0, 0]) (by exact fun _ => rfl) (by exact fun _ => rfl) rfl rfl (bnd2 (by decide) (by decide)) (bnd2 (by decide) (by decide)) rfl ?_
            refine vc_isBool (rfl) ?_
            refine vc_isBool (rfl) ?_
            refine vc_isAgg rfl rfl rfl ?_
            refine vc_call c_prime (ds := []) (r := nums [Ed.P]) (fun _ => rfl) rfl (⟨rfl, rfl⟩) ?_
            refine vc_call c_less (ds := [nums [m], nums [Ed.P]]) (r := Bo (decide (m < Ed.P))) (fun _ => rfl) rfl (⟨_, _, hmW, (by decide), rfl, rfl⟩) ?_
            refine vc_not (fun _ => rfl) rfl ?_
            refine vc_isBool (by show Bo (!decide _) = _; rw [decide_eq_true hP]; rfl) ?_
            refine vc_isAgg rfl rfl rfl ?_
            refine vc_isAgg rfl rfl rfl ?_
            refine vc_isAgg rfl rfl rfl ?_
            refine vc_isAgg rfl rfl rfl ?_
            refine vc_call c_Mul (ds := [nums [m, m]]) (r := fn [prodF [ofN m, ofN m]]) (fun _ => rfl) rfl (⟨_, (by simp only [List.forall_mem_cons]; exact ⟨hmW, hmW, by simp⟩), (Nat.le_of_ble_eq_true rfl), rfl, rfl⟩) ?_
            refine vc_call c_SubF (ds := [fn [prodF [ofN m, ofN m]], fn [1]]) (r := fn [(prodF [ofN m, ofN m]) - 1]) (fun _ => rfl) rfl (⟨_, _, rfl, rfl⟩) ?_
            refine vc_call c_d9 (ds := []) (r := fn [Ed.d]) (fun _ => rfl) rfl (⟨rfl, rfl⟩) ?_
            refine vc_isAgg rfl rfl rfl ?_
            refine vc_isAgg rfl rfl rfl ?_
            refine vc_isAgg rfl rfl rfl ?_
            refine vc_isAgg rfl rfl rfl ?_
            refine vc_isAgg rfl rfl rfl ?_
            refine vc_call c_Mul (ds := [nums [Ed.d.val, m, m]]) (r := fn [prodF [ofN Ed.d.val, ofN m, ofN m]]) (fun _ => rfl) rfl (⟨_, (by simp only [List.forall_mem_cons]; exact ⟨(F_lt _), hmW, hmW, by simp⟩), (Nat.le_of_ble_eq_true rfl), rfl, rfl⟩) ?_
            refine vc_isAgg rfl rfl rfl ?_
            refine vc_call c_AddF (ds := [fn [prodF [ofN Ed.d.val, ofN m, ofN m], 1]]) (r := fn [sumF [prodF [ofN Ed.d.val, ofN m, ofN m], 1]]) (fun _ => rfl) rfl (⟨_, (Nat.le_of_ble_eq_true rfl), rfl, rfl⟩) ?_
            refine vc_call c_invF (ds := [fn [sumF [prodF [ofN Ed.d.val, ofN m, ofN m], 1]]]) (r := fn [inv (sumF [prodF [ofN Ed.d.val, ofN m, ofN m], 1])]) (fun _ => rfl) rfl (⟨_, rfl, rfl⟩) ?_
            refine vc_isAgg rfl rfl rfl ?_
            refine vc_isAgg rfl rfl rfl ?_
            refine vc_call c_MulF (ds := [fn [(prodF [ofN m, ofN m]) - 1, inv (sumF [prodF [ofN Ed.d.val, ofN m, ofN m], 1])]]) (r := fn [prodF [(prodF [ofN m, ofN m]) - 1, inv (sumF [prodF [ofN Ed.d.val, ofN m, ofN m], 1])]]) (fun _ => rfl) rfl (⟨_, (Nat.le_of_ble_eq_true rfl), rfl, rfl⟩) ?_
            refine vc_call c_rootF (ds := [fn [prodF [(prodF [ofN m, ofN m]) - 1, inv (sumF [prodF [ofN Ed.d.val, ofN m, ofN m], 1])]]]) (r := Value.tuple #[fn [Ed.root (Ed.uv (ofN m))], Bo (Ed.isSq (Ed.uv (ofN m)))]) (fun _ => rfl) rfl (⟨_, rfl, by rw [uv_law]⟩) ?_
            refine vc_tupc (fun _ => rfl) rfl rfl ?_
            refine vc_tupc (fun _ => rfl) rfl rfl ?_
            refine vc_isAgg rfl rfl rfl ?_
            refine vc_not (fun _ => rfl) rfl ?_
            refine vc_isBool (by show Bo (!Ed.isSq _) = _; rw [hs]; rfl) ?_
            refine vc_isBool (by show Bo (!Ed.isSq _) = _; rw [hs]; rfl) ?_
            refine vc_isBool (by show Bo (decide _) = _; rw [decide_eq_true h127]; rfl) ?_
            refine vc_isAgg rfl rfl rfl ?_
            refine vc_isBool (by show Bo (decide _) = _; rw [decide_eq_true h127]; rfl) ?_
            refine vc_call c_zero (ds := [fn [Ed.root (Ed.uv (ofN m))]]) (r := Bo (decide ((Ed.root (Ed.uv (ofN m))).val = 0))) (fun _ => rfl) rfl (⟨_, F_lt _, rfl, rfl⟩) ?_
            refine vc_isBool (by show Bo (!Ed.isSq _) = _; rw [hs]; rfl) ?_
            refine vc_isBool (by show Bo (decide _) = _; rw [decide_eq_true h127]; rfl) ?_
            refine vc_isBool (by show Bo (!Ed.isSq _) = _; rw [hs]; rfl) ?_
            refine vc_nil ?_
            refine JF.ret (by kernel_rfl) ?_
            refine hE.fin3 37 [Bo (decide ((Ed.root (Ed.uv (ofN m))).val = 0)), Bo (!(Ed.isSq (Ed.uv (ofN m)))), Bo (Ed.isSq (Ed.uv (ofN m))), fn [Ed.root (Ed.uv (ofN m))], Value.tuple #[fn [Ed.root (Ed.uv (ofN m))], Bo (Ed.isSq (Ed.uv (ofN m)))], fn [prodF [(prodF [ofN m, ofN m]) - 1, inv (sumF [prodF [ofN Ed.d.val, ofN m, ofN m], 1])]], fn [inv (sumF [prodF [ofN Ed.d.val, ofN m, ofN m], 1])], fn [sumF [prodF [ofN Ed.d.val, ofN m, ofN m], 1]], fn [prodF [ofN Ed.d.val, ofN m, ofN m]], fn [Ed.d], fn [(prodF [ofN m, ofN m]) - 1], fn [prodF [ofN m, ofN m]], Bo (!(decide (m < Ed.P))), Bo (decide (m < Ed.P)), nums [Ed.P], Bo (!decide ([0, 0] = [0, 0])), Bo (!decide (5 = 5)), I 0, nums [m], Value.tuple #[nums [m], I 0], bts [x0, x1, x2, x3, x4, x5, x6, x7, x8, x9, x10, x11, x12, x13, x14, x15, x16, x17, x18, x19, x20, x21, x22, x23, x24, x25, x26, x27, x28, x29, x30, x31 % 128], IK .u8 (x31 % 128), IK .u8 x31, Bo (decide (127 < x31)), IK .u8 x31, bts [x0, x1, x2, x3, x4, x5, x6, x7, x8, x9, x10, x11, x12, x13, x14, x15, x16, x17, x18, x19, x20, x21, x22, x23, x24, x25, x26, x27, x28, x29, x30, x31], Bo (decide (5 = 0)), Bo (!decide (32 = 32)), I 32, I 5, nums [0, 0], Value.tuple #[nums [0, 0], I 5], Bo (decide (100 < 32)), I 32, Bo (!true), Bo true, bts [x0, x1, x2, x3, x4, x5, x6, x7, x8, x9, x10, x11, x12, x13, x14, x15, x16, x17, x18, x19, x20, x21, x22, x23, x24, x25, x26, x27, x28, x29, x30, x31]] rfl rfl (cm := []) (ds := [.v (.at (.one (.var 36)))]) (by kernel_rfl) rfl (.inr rfl) ?_
            refine vc_nil ?_
            show Bo (decide ((Ed.root (Ed.uv (ofN m))).val = 0)) = _
            rw [hz]
            rfl
          · refine Jd.go2 (E := E_reads_2) 1 [bts [x0, x1, x2, x3, x4, x5, x6, x7, x8, x9, x10, x11, x12, x13, x14, x15, x16, x17, x18, x19, x20, x21, x22, x23, x24, x25, x26, x27, x28, x29, x30, x31]] rfl rfl rfl [.call 12 ⟨none, [], .two (.one .v)⟩ [] 1, .un .not (.at (.one (.var 1))) 2, .isBool 2 false, .isBool 2 false, .len 0 1 3, .isBool 2 false, .bin .gtr 3 (.at (.one (.var 3))) (.at (.one (.lit (.int .i64 100)))) 4, .isBool 2 false, .isBool 4 false, .call 13 ⟨none, [.one (.sv 1)], .tup [.one .v, .one .v]⟩ [.one (.rc (.all 0))] 5, .tupc 5 0 6, .tupc 5 1 7, .isAgg 6 8, .len 0 1 8, .bin .neq 3 (.at (.one (.var 8))) (.at (.one (.lit (.int .i64 32)))) 9, .isBool 9 false, .bin .eql 29 (.at (.one (.var 7))) (.at (.one (.lit (.int .i64 0)))) 10, .isBool 10 false, .app (.lst []) (.all 0) 5 1 11, .ltlen 31 11 1, .get (.all 11) 31 12, .bin .gtr 5 (.at (.one (.var 12))) (.at (.one (.lit (.int .u8 127)))) 13, .ltlen 31 11 1, .get (.all 11) 31 14, .bin .rem 5 (.at (.one (.var 14))) (.at (.one (.lit (.int .u8 128)))) 15, .ltlen 31 11 1, .isOne (.var 15), .set (.all 11) 31 (.var 15) 16, .call 16 ⟨none, [.one (.sv 1)], .tup [.one .v, .one .v]⟩ [.one (.rc (.all 16))] 17, .tupc 17 0 18, .tupc 17 1 19, .isAgg 18 4, .bin .neq 29 (.at (.one (.var 7))) (.at (.one (.lit (.int .i64 5)))) 20, .isBool 20 false, .isAgg 6 8, .isBool 20 false, .isBool 20 false, .bin .neq 28 (.at (.one (.var 6))) (.at (.agg [.lit (.int .u64 0), .lit (.int .u64 0), .lit (.int .u64 0), .lit (.int .u64 0), .lit (.int .u64 0), .lit (.int .u64 0), .lit (.int .u64 0), .lit (.int .u64 0)])) 21, .isBool 20 false, .isBool 21 false, .isAgg 18 4, .call 18 ⟨none, [], .two (.one .v)⟩ [] 22, .call 17 ⟨none, [.one .v, .one .v], .two (.one .v)⟩ [.one (.a (.var 18)), .one (.a (.var 22))] 23, .un .not (.at (.one (.var 23))) 24, .isBool 24 false, .isAgg 18 4, .isAgg 18 4, .isAgg 18 4, .isAgg 18 4, .call 20 ⟨none, [.one (.sv 4)], .two (.one .v)⟩ [.one (.rc (.lst [.part 18 0 4, .part 18 1 4, .part 18 2 4, .part 18 3 4, .part 18 0 4, .part 18 1 4, .part 18 2 4, .part 18 3 4]))] 25, .call 21 ⟨none, [.one .v, .one .v], .two (.one .v)⟩ [.one (.a (.var 25)), .agg [.a (.lit (.int .u64 1)), .a (.lit (.int .u64 0)), .a (.lit (.int .u64 0)), .a (.lit (.int .u64 0))]] 26, .call 24 ⟨none, [], .two (.one .v)⟩ [] 27, .isAgg 18 4, .isAgg 18 4, .isAgg 27 4, .isAgg 18 4, .isAgg 18 4, .call 20 ⟨none, [.one (.sv 4)], .two (.one .v)⟩ [.one (.rc (.lst [.part 27 0 4, .part 27 1 4, .part 27 2 4, .part 27 3 4, .part 18 0 4, .part 18 1 4, .part 18 2 4, .part 18 3 4, .part 18 0 4, .part 18 1 4, .part 18 2 4, .part 18 3 4]))] 28, .isAgg 28 4, .call 23 ⟨none, [.one (.sv 4)], .two (.one .v)⟩ [.one (.rc (.lst [.part 28 0 4, .part 28 1 4, .part 28 2 4, .part 28 3 4, .lit (.int .u64 1), .lit (.int .u64 0), .lit (.int .u64 0), .lit (.int .u64 0)]))] 29, .call 22 ⟨none, [.one .v], .two (.one .v)⟩ [.one (.a (.var 29))] 30, .isAgg 26 4, .isAgg 30 4, .call 20 ⟨none, [.one (.sv 4)], .two (.one .v)⟩ [.one (.rc (.lst [.part 26 0 4, .part 26 1 4, .part 26 2 4, .part 26 3 4, .part 30 0 4, .part 30 1 4, .part 30 2 4, .part 30 3 4]))] 31, .call 19 ⟨none, [.one .v], .tup [.one .v, .one .v]⟩ [.one (.a (.var 31))] 32, .tupc 32 0 33, .tupc 32 1 34, .isAgg 33 4, .un .not (.at (.one (.var 34))) 35, .isBool 35 true, .isBool 35 true, .isBool 35 true, .isBool 35 true] (by kernel_rfl) ?_
            refine vc_call c_awake9 (ds := []) (r := Bo true) (fun _ => rfl) rfl (⟨rfl, rfl⟩) ?_
            refine vc_not (fun _ => rfl) rfl ?_
            refine vc_isBool (rfl) ?_
            refine vc_isBool (rfl) ?_
            refine vc_len (k := 32) (by exact fun _ => rfl) rfl rfl ?_
            refine vc_isBool (rfl) ?_
            refine vc_cmp (op := .gtr) (x := 32) (y := (100 : Nat)) (k := .i64) (t := decide (100 < 32)) (by exact fun _ => rfl) (by exact fun _ => rfl) rfl rfl ?_
            refine vc_isBool (rfl) ?_
            refine vc_isBool (rfl) ?_
            refine vc_call c_readP32 (ds := [bts [x0, x1, x2, x3, x4, x5, x6, x7, x8, x9, x10, x11, x12, x13, x14, x15, x16, x17, x18, x19, x20, x21, x22, x23, x24, x25, x26, x27, x28, x29, x30, x31]]) (r := Value.tuple #[nums [0, 0], I 5]) (fun _ => rfl) rfl (⟨_, hbx, h32, rfl, by rw [hr]; rfl⟩) ?_
            refine vc_tupc (fun _ => rfl) rfl rfl ?_
            refine vc_tupc (fun _ => rfl) rfl rfl ?_
            refine vc_isAgg rfl rfl rfl ?_
            refine vc_len (k := 32) (by exact fun _ => rfl) rfl rfl ?_
            refine vc_cmp (op := .neq) (x := 32) (y := (32 : Nat)) (k := .i64) (t := !decide (32 = 32)) (by exact fun _ => rfl) (by exact fun _ => rfl) rfl rfl ?_
            refine vc_isBool (rfl) ?_
            refine vc_cmp (op := .eql) (x := 5) (y := (0 : Nat)) (k := .i64) (t := decide (5 = 0)) (by exact fun _ => rfl) (by exact fun _ => rfl) rfl rfl ?_
            refine vc_isBool (rfl) ?_
            refine vc_app (by exact fun _ => rfl) (by exact fun _ => rfl) (Nat.le_of_ble_eq_true rfl) rfl ?_
            refine vc_ltlen rfl (Nat.le_of_ble_eq_true rfl) ?_
            refine vc_get (x := IK .u8 x31) (by exact fun _ => rfl) rfl rfl ?_
            refine vc_cmp (op := .gtr) (k := .u8) (x := x31) (y := (127 : Nat)) (t := decide (127 < x31)) (by exact fun _ => rfl) (by exact fun _ => rfl) rfl rfl ?_
            refine vc_ltlen rfl (Nat.le_of_ble_eq_true rfl) ?_
            refine vc_get (x := IK .u8 x31) (by exact fun _ => rfl) rfl rfl ?_
            refine vc_remU (k := .u8) (x := x31) (y := 128) (by exact fun _ => rfl) (by exact fun _ => rfl) (by decide) rfl ?_
            refine vc_ltlen rfl (Nat.le_of_ble_eq_true rfl) ?_
            refine vc_isOne rfl ?_
            refine vc_set (y := IK .u8 (x31 % 128)) (by exact fun _ => rfl) (by exact fun _ => rfl) (Nat.le_of_ble_eq_true rfl) rfl ?_
            refine vc_call c_of32 (ds := [bts [x0, x1, x2, x3, x4, x5, x6, x7, x8, x9, x10, x11, x12, x13, x14, x15, x16, x17, x18, x19, x20, x21, x22, x23, x24, x25, x26, x27, x28, x29, x30, x31 % 128]]) (r := Value.tuple #[nums [m], I 0]) (fun _ => rfl) rfl (⟨_, hb2, rfl, rfl, by rw [hm]⟩) ?_
            refine vc_tupc (fun _ => rfl) rfl rfl ?_
            refine vc_tupc (fun _ => rfl) rfl rfl ?_
            refine vc_isAgg rfl rfl rfl ?_
            refine vc_cmp (op := .neq) (x := 5) (y := (5 : Nat)) (k := .i64) (t := !decide (5 = 5)) (by exact fun _ => rfl) (by exact fun _ => rfl) rfl rfl ?_
            refine vc_isBool (rfl) ?_
            refine vc_isAgg rfl rfl rfl ?_
            refine vc_isBool (rfl) ?_
            refine vc_isBool (rfl) ?_
            refine vc_neqN (m := 2) eqT28 (xs := [0, 0]) (ys := [0, 0]) (by exact fun _ => rfl) (by exact fun _ => rfl) rfl rfl (bnd2 (by decide) (by decide)) (bnd2 (by decide) (by decide)) rfl ?_
            refine vc_isBool (rfl) ?_
            refine vc_isBool (rfl) ?_
            refine vc_isAgg rfl rfl rfl ?_
            refine vc_call c_prime (ds := []) (r := nums [Ed.P]) (fun _ => rfl) rfl (⟨rfl, rfl⟩) ?_
            refine vc_call c_less (ds := [nums [m], nums [Ed.P]]) (r := Bo (decide (m < Ed.P))) (fun _ => rfl) rfl (⟨_, _, hmW, (by decide), rfl, rfl⟩) ?_
            refine vc_not (fun _ => rfl) rfl ?_
            refine vc_isBool (by show Bo (!decide _) = _; rw [decide_eq_true hP]; rfl) ?_
            refine vc_isAgg rfl rfl rfl ?_
            refine vc_isAgg rfl rfl rfl ?_
            refine vc_isAgg rfl rfl rfl ?_
            refine vc_isAgg rfl rfl rfl ?_
            refine vc_call c_Mul (ds := [nums [m, m]]) (r := fn [prodF [ofN m, ofN m]]) (fun _ => rfl) rfl (⟨_, (by simp only [List.forall_mem_cons]; exact ⟨hmW, hmW, by simp⟩), (Nat.le_of_ble_eq_true rfl), rfl, rfl⟩) ?_
            refine vc_call c_SubF (ds := [fn [prodF [ofN m, ofN m]], fn [1]]) (r := fn [(prodF [ofN m, ofN m]) - 1]) (fun _ => rfl) rfl (⟨_, _, rfl, rfl⟩) ?_
            refine vc_call c_d9 (ds := []) (r := fn [Ed.d]) (fun _ => rfl) rfl (⟨rfl, rfl⟩) ?_
            refine vc_isAgg rfl rfl rfl ?_
            refine vc_isAgg rfl rfl rfl ?_
            refine vc_isAgg rfl rfl rfl ?_
            refine vc_isAgg rfl rfl rfl ?_
            refine vc_isAgg rfl rfl rfl ?_
            refine vc_call c_Mul (ds := [nums [Ed.d.val, m, m]]) (r := fn [prodF [ofN Ed.d.val, ofN m, ofN m]]) (fun _ => rfl) rfl (⟨_, (by simp only [List.forall_mem_cons]; exact ⟨(F_lt _), hmW, hmW, by simp⟩), (Nat.le_of_ble_eq_true rfl), rfl, rfl⟩) ?_
            refine vc_isAgg rfl rfl rfl ?_
            refine vc_call c_AddF (ds := [fn [prodF [ofN Ed.d.val, ofN m, ofN m], 1]]) (r := fn [sumF [prodF [ofN Ed.d.val, ofN m, ofN m], 1]]) (fun _ => rfl) rfl (⟨_, (Nat.le_of_ble_eq_true rfl), rfl, rfl⟩) ?_
            refine vc_call c_invF (ds := [fn [sumF [prodF [ofN Ed.d.val, ofN m, ofN m], 1]]]) (r := fn [inv (sumF [prodF [ofN Ed.d.val, ofN m, ofN m], 1])]) (fun _ => rfl) rfl (⟨_, rfl, rfl⟩) ?_
            refine vc_isAgg rfl rfl rfl ?_
            refine vc_isAgg rfl rfl rfl ?_
            refine vc_call c_MulF (ds := [fn [(prodF [ofN m, ofN m]) - 1, inv (sumF [prodF [ofN Ed.d.val, ofN m, ofN m], 1])]]) (r := fn [prodF [(prodF [ofN m, ofN m]) - 1, inv (sumF [prodF [ofN Ed.d.val, ofN m, ofN m], 1])]]) (fun _ => rfl) rfl (⟨_, (Nat.le_of_ble_eq_true rfl), rfl, rfl⟩) ?_
            refine vc_call c_rootF (ds := [fn [prodF [(prodF [ofN m, ofN m]) - 1, inv (sumF [prodF [ofN Ed.d.val, ofN m, ofN m], 1])]]]) (r := Value.tuple #[fn [Ed.root (Ed.uv (ofN m))], Bo (Ed.isSq (Ed.uv (ofN m)))]) (fun _ => rfl) rfl (⟨_, rfl, by rw [uv_law]⟩) ?_
            refine vc_tupc (fun _ => rfl) rfl rfl ?_
            refine vc_tupc (fun _ => rfl) rfl rfl ?_
            refine vc_isAgg rfl rfl rfl ?_
            refine vc_not (fun _ => rfl) rfl ?_
            refine vc_isBool (by show Bo (!Ed.isSq _) = _; rw [Bool.eq_false_iff.2 hs]; rfl) ?_
            refine vc_isBool (by show Bo (!Ed.isSq _) = _; rw [Bool.eq_false_iff.2 hs]; rfl) ?_
            refine vc_isBool (by show Bo (!Ed.isSq _) = _; rw [Bool.eq_false_iff.2 hs]; rfl) ?_
            refine vc_isBool (by show Bo (!Ed.isSq _) = _; rw [Bool.eq_false_iff.2 hs]; rfl) ?_
            refine vc_nil ?_
            refine JF.ret (by kernel_rfl) ?_
            refine hE.fin3 36 [Bo (!(Ed.isSq (Ed.uv (ofN m)))), Bo (Ed.isSq (Ed.uv (ofN m))), fn [Ed.root (Ed.uv (ofN m))], Value.tuple #[fn [Ed.root (Ed.uv (ofN m))], Bo (Ed.isSq (Ed.uv (ofN m)))], fn [prodF [(prodF [ofN m, ofN m]) - 1, inv (sumF [prodF [ofN Ed.d.val, ofN m, ofN m], 1])]], fn [inv (sumF [prodF [ofN Ed.d.val, ofN m, ofN m], 1])], fn [sumF [prodF [ofN Ed.d.val, ofN m, ofN m], 1]], fn [prodF [ofN Ed.d.val, ofN m, ofN m]], fn [Ed.d], fn [(prodF [ofN m, ofN m]) - 1], fn [prodF [ofN m, ofN m]], Bo (!(decide (m < Ed.P))), Bo (decide (m < Ed.P)), nums [Ed.P], Bo (!decide ([0, 0] = [0, 0])), Bo (!decide (5 = 5)), I 0, nums [m], Value.tuple #[nums [m], I 0], bts [x0, x1, x2, x3, x4, x5, x6, x7, x8, x9, x10, x11, x12, x13, x14, x15, x16, x17, x18, x19, x20, x21, x22, x23, x24, x25, x26, x27, x28, x29, x30, x31 % 128], IK .u8 (x31 % 128), IK .u8 x31, Bo (decide (127 < x31)), IK .u8 x31, bts [x0, x1, x2, x3, x4, x5, x6, x7, x8, x9, x10, x11, x12, x13, x14, x15, x16, x17, x18, x19, x20, x21, x22, x23, x24, x25, x26, x27, x28, x29, x30, x31], Bo (decide (5 = 0)), Bo (!decide (32 = 32)), I 32, I 5, nums [0, 0], Value.tuple #[nums [0, 0], I 5], Bo (decide (100 < 32)), I 32, Bo (!true), Bo true, bts [x0, x1, x2, x3, x4, x5, x6, x7, x8, x9, x10, x11, x12, x13, x14, x15, x16, x17, x18, x19, x20, x21, x22, x23, x24, x25, x26, x27, x28, x29, x30, x31]] rfl rfl (cm := []) (ds := [.v (.at (.one (.lit (.bool true))))]) (by kernel_rfl) rfl (.inr rfl) ?_
            refine vc_nil ?_
            show Bo true = _
            rfl
        · refine Jd.go2 (E := E_reads_3) 1 [bts [x0, x1, x2, x3, x4, x5, x6, x7, x8, x9, x10, x11, x12, x13, x14, x15, x16, x17, x18, x19, x20, x21, x22, x23, x24, x25, x26, x27, x28, x29, x30, x31]] rfl rfl rfl [.call 12 ⟨none, [], .two (.one .v)⟩ [] 1, .un .not (.at (.one (.var 1))) 2, .isBool 2 false, .isBool 2 false, .len 0 1 3, .isBool 2 false, .bin .gtr 3 (.at (.one (.var 3))) (.at (.one (.lit (.int .i64 100)))) 4, .isBool 2 false, .isBool 4 false, .call 13 ⟨none, [.one (.sv 1)], .tup [.one .v, .one .v]⟩ [.one (.rc (.all 0))] 5, .tupc 5 0 6, .tupc 5 1 7, .isAgg 6 8, .len 0 1 8, .bin .neq 3 (.at (.one (.var 8))) (.at (.one (.lit (.int .i64 32)))) 9, .isBool 9 false, .bin .eql 29 (.at (.one (.var 7))) (.at (.one (.lit (.int .i64 0)))) 10, .isBool 10 false, .app (.lst []) (.all 0) 5 1 11, .ltlen 31 11 1, .get (.all 11) 31 12, .bin .gtr 5 (.at (.one (.var 12))) (.at (.one (.lit (.int .u8 127)))) 13, .ltlen 31 11 1, .get (.all 11) 31 14, .bin .rem 5 (.at (.one (.var 14))) (.at (.one (.lit (.int .u8 128)))) 15, .ltlen 31 11 1, .isOne (.var 15), .set (.all 11) 31 (.var 15) 16, .call 16 ⟨none, [.one (.sv 1)], .tup [.one .v, .one .v]⟩ [.one (.rc (.all 16))] 17, .tupc 17 0 18, .tupc 17 1 19, .isAgg 18 4, .bin .neq 29 (.at (.one (.var 7))) (.at (.one (.lit (.int .i64 5)))) 20, .isBool 20 false, .isAgg 6 8, .isBool 20 false, .isBool 20 false, .bin .neq 28 (.at (.one (.var 6))) (.at (.agg [.lit (.int .u64 0), .lit (.int .u64 0), .lit (.int .u64 0), .lit (.int .u64 0), .lit (.int .u64 0), .lit (.int .u64 0), .lit (.int .u64 0), .lit (.int .u64 0)])) 21, .isBool 20 false, .isBool 21 false, .isAgg 18 4, .call 18 ⟨none, [], .two (.one .v)⟩ [] 22, .call 17 ⟨none, [.one .v, .one .v], .two (.one .v)⟩ [.one (.a (.var 18)), .one (.a (.var 22))] 23, .un .not (.at (.one (.var 23))) 24, .isBool 24 true] (by kernel_rfl) ?_
          refine vc_call c_awake9 (ds := []) (r := Bo true) (fun _ => rfl) rfl (⟨rfl, rfl⟩) ?_
          refine vc_not (fun _ => rfl) rfl ?_
          refine vc_isBool (rfl) ?_
          refine vc_isBool (rfl) ?_
          refine vc_len (k := 32) (by exact fun _ => rfl) rfl rfl ?_
          refine vc_isBool (rfl) ?_
          refine vc_cmp (op := .gtr) (x := 32) (y := (100 : Nat)) (k := .i64) (t := decide (100 < 32)) (by exact fun _ => rfl) (by exact fun _ => rfl) rfl rfl ?_
          refine vc_isBool (rfl) ?_
          refine vc_isBool (rfl) ?_
          refine vc_call c_readP32 (ds := [bts [x0, x1, x2, x3, x4, x5, x6, x7, x8, x9, x10, x11, x12, x13, x14, x15, x16, x17, x18, x19, x20, x21, x22, x23, x24, x25, x26, x27, x28, x29, x30, x31]]) (r := Value.tuple #[nums [0, 0], I 5]) (fun _ => rfl) rfl (⟨_, hbx, h32, rfl, by rw [hr]; rfl⟩) ?_
          refine vc_tupc (fun _ => rfl) rfl rfl ?_
          refine vc_tupc (fun _ => rfl) rfl rfl ?_
          refine vc_isAgg rfl rfl rfl ?_
          refine vc_len (k := 32) (by exact fun _ => rfl) rfl rfl ?_
          refine vc_cmp (op := .neq) (x := 32) (y := (32 : Nat)) (k := .i64) (t := !decide (32 = 32)) (by exact fun _ => rfl) (by exact fun _ => rfl) rfl rfl ?_
          refine vc_isBool (rfl) ?_
          refine vc_cmp (op := .eql) (x := 5) (y := (0 : Nat)) (k := .i64) (t := decide (5 = 0)) (by exact fun _ => rfl) (by exact fun _ => rfl) rfl rfl ?_
          refine vc_isBool (rfl) ?_
          refine vc_app (by exact fun _ => rfl) (by exact fun _ => rfl) (Nat.le_of_ble_eq_true rfl) rfl ?_
          refine vc_ltlen rfl (Nat.le_of_ble_eq_true rfl) ?_
          refine vc_get (x := IK .u8 x31) (by exact fun _ => rfl) rfl rfl ?_
          refine vc_cmp (op := .gtr) (k := .u8) (x := x31) (y := (127 : Nat)) (t := decide (127 < x31)) (by exact fun _ => rfl) (by exact fun _ => rfl) rfl rfl ?_
          refine vc_ltlen rfl (Nat.le_of_ble_eq_true rfl) ?_
          refine vc_get (x := IK .u8 x31) (by exact fun _ => rfl) rfl rfl ?_
          refine vc_remU (k := .u8) (x := x31) (y := 128) (by exact fun _ => rfl) (by exact fun _ => rfl) (by decide) rfl ?_
          refine vc_ltlen rfl (Nat.le_of_ble_eq_true rfl) ?_
          refine vc_isOne rfl ?_
          refine vc_set (y := IK .u8 (x31 % 128)) (by exact fun _ => rfl) (by exact fun _ => rfl) (Nat.le_of_ble_eq_true rfl) rfl ?_
          refine vc_call c_of32 (ds := [bts [x0, x1, x2, x3, x4, x5, x6, x7, x8, x9, x10, x11, x12, x13, x14, x15, x16, x17, x18, x19, x20, x21, x22, x23, x24, x25, x26, x27, x28, x29, x30, x31 % 128]]) (r := Value.tuple #[nums [m], I 0]) (fun _ => rfl) rfl (⟨_, hb2, rfl, rfl, by rw [hm]⟩) ?_
          refine vc_tupc (fun _ => rfl) rfl rfl ?_
          refine vc_tupc (fun _ => rfl) rfl rfl ?_
          refine vc_isAgg rfl rfl rfl ?_
          refine vc_cmp (op := .neq) (x := 5) (y := (5 : Nat)) (k := .i64) (t := !decide (5 = 5)) (by exact fun _ => rfl) (by exact fun _ => rfl) rfl rfl ?_
          refine vc_isBool (rfl) ?_
          refine vc_isAgg rfl rfl rfl ?_
          refine vc_isBool (rfl) ?_
          refine vc_isBool (rfl) ?_
          refine vc_neqN (m := 2) eqT28 (xs := [0, 0]) (ys := [0, 0]) (by exact fun _ => rfl) (by exact fun _ => rfl) rfl rfl (bnd2 (by decide) (by decide)) (bnd2 (by decide) (by decide)) rfl ?_
          refine vc_isBool (rfl) ?_
          refine vc_isBool (rfl) ?_
          refine vc_isAgg rfl rfl rfl ?_
          refine vc_call c_prime (ds := []) (r := nums [Ed.P]) (fun _ => rfl) rfl (⟨rfl, rfl⟩) ?_
          refine vc_call c_less (ds := [nums [m], nums [Ed.P]]) (r := Bo (decide (m < Ed.P))) (fun _ => rfl) rfl (⟨_, _, hmW, (by decide), rfl, rfl⟩) ?_
          refine vc_not (fun _ => rfl) rfl ?_
          refine vc_isBool (by show Bo (!decide _) = _; rw [decide_eq_false hP]; rfl) ?_
          refine vc_nil ?_
          refine JF.ret (by kernel_rfl) ?_
          refine hE.fin3 25 [Bo (!(decide (m < Ed.P))), Bo (decide (m < Ed.P)), nums [Ed.P], Bo (!decide ([0, 0] = [0, 0])), Bo (!decide (5 = 5)), I 0, nums [m], Value.tuple #[nums [m], I 0], bts [x0, x1, x2, x3, x4, x5, x6, x7, x8, x9, x10, x11, x12, x13, x14, x15, x16, x17, x18, x19, x20, x21, x22, x23, x24, x25, x26, x27, x28, x29, x30, x31 % 128], IK .u8 (x31 % 128), IK .u8 x31, Bo (decide (127 < x31)), IK .u8 x31, bts [x0, x1, x2, x3, x4, x5, x6, x7, x8, x9, x10, x11, x12, x13, x14, x15, x16, x17, x18, x19, x20, x21, x22, x23, x24, x25, x26, x27, x28, x29, x30, x31], Bo (decide (5 = 0)), Bo (!decide (32 = 32)), I 32, I 5, nums [0, 0], Value.tuple #[nums [0, 0], I 5], Bo (decide (100 < 32)), I 32, Bo (!true), Bo true, bts [x0, x1, x2, x3, x4, x5, x6, x7, x8, x9, x10, x11, x12, x13, x14, x15, x16, x17, x18, x19, x20, x21, x22, x23, x24, x25, x26, x27, x28, x29, x30, x31]] rfl rfl (cm := []) (ds := [.v (.at (.one (.lit (.bool true))))]) (by kernel_rfl) rfl (.inr rfl) ?_
          refine vc_nil ?_
          show Bo true = _
          rfl
      · have hpn := num_read hn hr
        have hby : bytesOf 32 (pnum p) = [x0, x1, x2, x3, x4, x5, x6, x7, x8, x9, x10, x11, x12, x13, x14, x15, x16, x17, x18, x19, x20, x21, x22, x23, x24, x25, x26, x27, x28, x29, x30, x31] := by rw [hpn, ← h32]; exact bytesOf_le _ hbx
        refine Jd.go2 (E := E_reads_4) 1 [bts [x0, x1, x2, x3, x4, x5, x6, x7, x8, x9, x10, x11, x12, x13, x14, x15, x16, x17, x18, x19, x20, x21, x22, x23, x24, x25, x26, x27, x28, x29, x30, x31]] rfl rfl rfl [.call 12 ⟨none, [], .two (.one .v)⟩ [] 1, .un .not (.at (.one (.var 1))) 2, .isBool 2 false, .isBool 2 false, .len 0 1 3, .isBool 2 false, .bin .gtr 3 (.at (.one (.var 3))) (.at (.one (.lit (.int .i64 100)))) 4, .isBool 2 false, .isBool 4 false, .call 13 ⟨none, [.one (.sv 1)], .tup [.one .v, .one .v]⟩ [.one (.rc (.all 0))] 5, .tupc 5 0 6, .tupc 5 1 7, .isAgg 6 8, .len 0 1 8, .bin .neq 3 (.at (.one (.var 8))) (.at (.one (.lit (.int .i64 32)))) 9, .isBool 9 false, .bin .eql 29 (.at (.one (.var 7))) (.at (.one (.lit (.int .i64 0)))) 10, .isBool 10 true, .isAgg 6 8, .call 14 ⟨none, [.one .v], .two (.one .v)⟩ [.one (.a (.var 6))] 11, .isBool 11 true, .isAgg 6 8, .isBool 11 true, .call 15 ⟨none, [.one .v], .two (.one (.s 1 5))⟩ [.one (.a (.var 6))] 12, .isBool 11 true, .tostr (.all 12) 13, .isBool 11 true, .isBool 11 true, .tostr (.all 0) 14, .isBool 11 true, .bin .eql 9 (.at (.one (.var 13))) (.at (.one (.var 14))) 15, .isBool 11 true] (by kernel_rfl) ?_
        refine vc_call c_awake9 (ds := []) (r := Bo true) (fun _ => rfl) rfl (⟨rfl, rfl⟩) ?_
        refine vc_not (fun _ => rfl) rfl ?_
        refine vc_isBool (rfl) ?_
        refine vc_isBool (rfl) ?_
        refine vc_len (k := 32) (by exact fun _ => rfl) rfl rfl ?_
        refine vc_isBool (rfl) ?_
        refine vc_cmp (op := .gtr) (x := 32) (y := (100 : Nat)) (k := .i64) (t := decide (100 < 32)) (by exact fun _ => rfl) (by exact fun _ => rfl) rfl rfl ?_
        refine vc_isBool (rfl) ?_
        refine vc_isBool (rfl) ?_
        refine vc_call c_readP32 (ds := [bts [x0, x1, x2, x3, x4, x5, x6, x7, x8, x9, x10, x11, x12, x13, x14, x15, x16, x17, x18, x19, x20, x21, x22, x23, x24, x25, x26, x27, x28, x29, x30, x31]]) (r := Value.tuple #[PV p, I 0]) (fun _ => rfl) rfl (⟨_, hbx, h32, rfl, by rw [hr]; rfl⟩) ?_
        refine vc_tupc (fun _ => rfl) rfl rfl ?_
        refine vc_tupc (fun _ => rfl) rfl rfl ?_
        refine vc_isAgg rfl rfl rfl ?_
        refine vc_len (k := 32) (by exact fun _ => rfl) rfl rfl ?_
        refine vc_cmp (op := .neq) (x := 32) (y := (32 : Nat)) (k := .i64) (t := !decide (32 = 32)) (by exact fun _ => rfl) (by exact fun _ => rfl) rfl rfl ?_
        refine vc_isBool (rfl) ?_
        refine vc_cmp (op := .eql) (x := 0) (y := (0 : Nat)) (k := .i64) (t := decide (0 = 0)) (by exact fun _ => rfl) (by exact fun _ => rfl) rfl rfl ?_
        refine vc_isBool (rfl) ?_
        refine vc_isAgg rfl rfl rfl ?_
        refine vc_call c_goodP (ds := [PV p]) (r := Bo true) (fun _ => rfl) rfl (⟨_, rfl, rfl⟩) ?_
        refine vc_isBool (rfl) ?_
        refine vc_isAgg rfl rfl rfl ?_
        refine vc_isBool (rfl) ?_
        refine vc_call c_bytesP (ds := [PV p]) (r := bts (bytesOf 32 (pnum p))) (fun _ => rfl) rfl (⟨_, rfl, rfl⟩) ?_
        refine vc_isBool (rfl) ?_
        refine vc_tostrB (u := bytesOf 32 (pnum p)) (bytesOf_isB _ _) (by exact fun _ => rfl) rfl ?_
        refine vc_isBool (rfl) ?_
        refine vc_isBool (rfl) ?_
        refine vc_tostrB (u := [x0, x1, x2, x3, x4, x5, x6, x7, x8, x9, x10, x11, x12, x13, x14, x15, x16, x17, x18, x19, x20, x21, x22, x23, x24, x25, x26, x27, x28, x29, x30, x31]) hbx (by exact fun _ => rfl) rfl ?_
        refine vc_isBool (rfl) ?_
        refine vc_eqlS (u := bytesOf 32 (pnum p)) (t := [x0, x1, x2, x3, x4, x5, x6, x7, x8, x9, x10, x11, x12, x13, x14, x15, x16, x17, x18, x19, x20, x21, x22, x23, x24, x25, x26, x27, x28, x29, x30, x31]) (bytesOf_isB _ _) hbx (by exact fun _ => rfl) (by exact fun _ => rfl) rfl ?_
        refine vc_isBool (rfl) ?_
        refine vc_nil ?_
        refine JF.ret (by kernel_rfl) ?_
        refine hE.fin3 16 [Bo (decide (bytesOf 32 (pnum p) = [x0, x1, x2, x3, x4, x5, x6, x7, x8, x9, x10, x11, x12, x13, x14, x15, x16, x17, x18, x19, x20, x21, x22, x23, x24, x25, x26, x27, x28, x29, x30, x31])), STR ([x0, x1, x2, x3, x4, x5, x6, x7, x8, x9, x10, x11, x12, x13, x14, x15, x16, x17, x18, x19, x20, x21, x22, x23, x24, x25, x26, x27, x28, x29, x30, x31]), STR (bytesOf 32 (pnum p)), bts (bytesOf 32 (pnum p)), Bo true, Bo (decide (0 = 0)), Bo (!decide (32 = 32)), I 32, I 0, PV p, Value.tuple #[PV p, I 0], Bo (decide (100 < 32)), I 32, Bo (!true), Bo true, bts [x0, x1, x2, x3, x4, x5, x6, x7, x8, x9, x10, x11, x12, x13, x14, x15, x16, x17, x18, x19, x20, x21, x22, x23, x24, x25, x26, x27, x28, x29, x30, x31]] rfl rfl (cm := []) (ds := [.v (.at (.one (.var 15)))]) (by kernel_rfl) rfl (.inr rfl) ?_
        refine vc_nil ?_
        show Bo (decide (bytesOf 32 (pnum p) = [x0, x1, x2, x3, x4, x5, x6, x7, x8, x9, x10, x11, x12, x13, x14, x15, x16, x17, x18, x19, x20, x21, x22, x23, x24, x25, x26, x27, x28, x29, x30, x31])) = _
        rw [decide_eq_true hby]
    · refine Jd.go2 (E := E_reads_5) 1 [bts lx] rfl rfl rfl [.call 12 ⟨none, [], .two (.one .v)⟩ [] 1, .un .not (.at (.one (.var 1))) 2, .isBool 2 false, .isBool 2 false, .len 0 1 3, .isBool 2 false, .bin .gtr 3 (.at (.one (.var 3))) (.at (.one (.lit (.int .i64 100)))) 4, .isBool 2 false, .isBool 4 false, .call 13 ⟨none, [.one (.sv 1)], .tup [.one .v, .one .v]⟩ [.one (.rc (.all 0))] 5, .tupc 5 0 6, .tupc 5 1 7, .isAgg 6 8, .len 0 1 8, .bin .neq 3 (.at (.one (.var 8))) (.at (.one (.lit (.int .i64 32)))) 9, .isBool 9 true, .bin .eql 29 (.at (.one (.var 7))) (.at (.one (.lit (.int .i64 3)))) 10, .isBool 10 true, .isAgg 6 8, .isBool 10 true, .isBool 10 true, .bin .eql 28 (.at (.one (.var 6))) (.at (.agg [.lit (.int .u64 0), .lit (.int .u64 0), .lit (.int .u64 0), .lit (.int .u64 0), .lit (.int .u64 0), .lit (.int .u64 0), .lit (.int .u64 0), .lit (.int .u64 0)])) 11, .isBool 10 true] (by kernel_rfl) ?_
      refine vc_call c_awake9 (ds := []) (r := Bo true) (fun _ => rfl) rfl (⟨rfl, rfl⟩) ?_
      refine vc_not (fun _ => rfl) rfl ?_
      refine vc_isBool (rfl) ?_
      refine vc_isBool (rfl) ?_
      refine vc_len (k := lx.length) (by exact fun _ => rfl) (by simp) rfl ?_
      refine vc_isBool (rfl) ?_
      refine vc_cmp (op := .gtr) (x := lx.length) (y := (100 : Nat)) (k := .i64) (t := decide (100 < lx.length)) (by exact fun _ => rfl) (by exact fun _ => rfl) rfl rfl ?_
      refine vc_isBool (rfl) ?_
      refine vc_isBool (by show Bo (decide _) = _; rw [decide_eq_false h100]; rfl) ?_
      refine vc_call c_readPk (ds := [bts lx]) (r := Value.tuple #[nums [0, 0], I 3]) (fun _ => rfl) rfl (⟨_, hbx, h60, rfl, (readP_short h32).symm⟩) ?_
      refine vc_tupc (fun _ => rfl) rfl rfl ?_
      refine vc_tupc (fun _ => rfl) rfl rfl ?_
      refine vc_isAgg rfl rfl rfl ?_
      refine vc_len (k := lx.length) (by exact fun _ => rfl) (by simp) rfl ?_
      refine vc_cmp (op := .neq) (x := lx.length) (y := (32 : Nat)) (k := .i64) (t := !decide (lx.length = 32)) (by exact fun _ => rfl) (by exact fun _ => rfl) rfl rfl ?_
      refine vc_isBool (by show Bo (!decide _) = _; rw [decide_eq_false h32]; rfl) ?_
      refine vc_cmp (op := .eql) (x := 3) (y := (3 : Nat)) (k := .i64) (t := decide (3 = 3)) (by exact fun _ => rfl) (by exact fun _ => rfl) rfl rfl ?_
      refine vc_isBool (rfl) ?_
      refine vc_isAgg rfl rfl rfl ?_
      refine vc_isBool (rfl) ?_
      refine vc_isBool (rfl) ?_
      refine vc_eqlN (m := 2) eqT28 (xs := [0, 0]) (ys := [0, 0]) (by exact fun _ => rfl) (by exact fun _ => rfl) rfl rfl (bnd2 (by decide) (by decide)) (bnd2 (by decide) (by decide)) rfl ?_
      refine vc_isBool (rfl) ?_
      refine vc_nil ?_
      refine JF.ret (by kernel_rfl) ?_
      refine hE.fin3 12 [Bo (decide ([0, 0] = [0, 0])), Bo (decide (3 = 3)), Bo (!decide (lx.length = 32)), I lx.length, I 3, nums [0, 0], Value.tuple #[nums [0, 0], I 3], Bo (decide (100 < lx.length)), I lx.length, Bo (!true), Bo true, bts lx] rfl rfl (cm := []) (ds := [.v (.at (.one (.var 11)))]) (by kernel_rfl) rfl (.inr rfl) ?_
      refine vc_nil ?_
      show Bo (decide ([0, 0] = [0, 0])) = _
      rfl

end Go.Proofs.Ytpeafegfjhljmaa

/-
  CurveReads: any bytes are read as a point, or not: what is read is one, and has just those bytes; of what is not read no point has these: for every input, without a condition.
-/
open Go Go.Sx Go.Proofs Go.ChangeShapes Go.WideShapes Go.ChangeAt
open Ed (F P inv pw Pt)
namespace Go.Proofs.Ytpeafegfjhljmaa
set_option maxRecDepth 100000
set_option maxHeartbeats 4000000
theorem own : ownKnob Try.prog.godebug = none := by kernel_rfl
theorem laidOut : laidOutB Try.prog = true := by kernel_rfl
theorem reads_lifted (os : Os) (started : os.Started) (H : Type) (enc : TypeId × Value → H) :
    ReturnsInHanded {} Try.checked os 3 .any (Rows.curveReadsSpec.pre6 enc Try.prog Try.f3 Rows.curveReadsRow.domain false) (Rows.curveReadsSpec.post enc Try.prog Try.f3 false true false false) := by
  refine returnsInHanded_of_change (C := Try.checked) own started (by kernel_rfl) Try.func3
    (ChangeSpec.witness6 (enc := enc) (C := Try.checked) false ⟨#[], #[.slice none 0 0], []⟩ 100 (by kernel_rfl) (by kernel_rfl) (by kernel_rfl) (by kernel_rfl)) ?_
  intro W base args ds gs before hval hW hcnd _
  have hlt := hW.lt
  have hW0 := hW
  obtain ⟨p, q, hA, hV, rfl, hfz, hnd⟩ := hW0
  obtain ⟨rfl, rfl⟩ := trodVars_none hV
  replace hA : DataW.TrodAll enc Try.prog W 0 (fun _ => true) true [22] args.toList ds p := by rw [show Try.f3.params.toList = [22] by kernel_rfl] at hA; exact hA
  obtain ⟨v0, d0, rfl, rfl, h0⟩ := trodAll_one hA
  obtain ⟨l0, s0, l0b⟩ := open_slice (e := 5) (k := .u8) (by kernel_rfl) (by kernel_rfl) (by kernel_rfl) rfl (hval 0 22 v0 (by kernel_rfl) rfl) h0
  replace l0b : isB l0 := fun x hx => l0b x hx
  have hcall := calls_of_ctr (A := fun _ => True) c_reads Try.func3 (by kernel_rfl) (by kernel_rfl) (w := W) (vs := [_]) (ds := [bts l0]) (r := Bo true) trivial ⟨s0, trivial⟩ ⟨l0, l0b, rfl, rfl⟩
  refine hcall.mono ?_
  rintro e W' ⟨v, rfl, hr, hb⟩
  obtain rfl : v = Bo true := hr
  exact ⟨_, rfl, (law_post laidOut (by kernel_rfl) rfl (tb := 4) (by kernel_rfl) (by kernel_rfl) hW hb rfl).1⟩
theorem reads_holds : Rows.CurveReadsSaid :=
  OpenClaim.holds_of_wide 3 Try.f3 rfl rfl rfl rfl rfl rfl rfl ⟨rfl, rfl, rfl, rfl, rfl⟩ rfl rfl rfl rfl rfl (by kernel_rfl) Try.func3 (by kernel_rfl)
    (of_decide_eq_true (by kernel_rfl)) (by unfold Func.isWrapper; rw [if_neg (by decide +kernel)]; exact ⟨rfl, rfl⟩)
    (fun os started H enc _ => reads_lifted os started H enc)
end Go.Proofs.Ytpeafegfjhljmaa
