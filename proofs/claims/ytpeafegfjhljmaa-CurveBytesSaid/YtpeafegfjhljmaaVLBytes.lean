/- CurveBytes: any point's bytes are y's, with x's oddness, and are read as it; a small one's eighth is the naught; the base is not small, but so many times the order the naught: for every input, without a condition. -/
import Derived.Test.YtpeafegfjhljmaaVS
import Derived.Test.YtpeafegfjhljmaaVE
import Derived.Test.YtpeafegfjhljmaaVP
import Derived.Test.YtpeafegfjhljmaaRows
/-
  Functions of the program: what each computes.
-/
open Go Go.Sx Go.Proofs
open Ed (F P inv pw Pt)
namespace Go.Proofs.Ytpeafegfjhljmaa
set_option maxRecDepth 100000
set_option maxHeartbeats 4000000
noncomputable def E_mont9_0 : Option Ran := ex1 (cfg 12) (fun n => if n = 2 then some true else none) 0 4000 30000 1 (inSt (v1v)) [.c (bodyOf Try.f42)] .nor
noncomputable def E_mont9_1 : Option Ran := ex1 (cfg 12) (fun n => if n = 2 then some false else none) 0 4000 50000 1 (inSt (v1v)) [.c (bodyOf Try.f42)] .nor
theorem c_mont9 : Ctr Try.prog glb0 42 v1v (fun ds r => ∃ p : Pt, ds = [PV p] ∧ r = fn [if p = 0 then 0 else 1 + p.y]) := by
  refine ctr (C := cfg 12) mixed ti_ok Try.func42 (by kernel_rfl) ?_
  rintro ds r X Q hl ⟨p, rfl, rfl⟩ hE
  by_cases h0 : p = 0
  · refine Jd.go2 (E := E_mont9_0) 1 [PV p] rfl rfl rfl [.isAgg 0 8, .isAgg 0 8, .call 36 ⟨none, [], .two (.one .v)⟩ [] 1, .bin .eql 28 (.at (.one (.var 0))) (.at (.one (.var 1))) 2, .isBool 2 true] (by kernel_rfl) ?_
    refine vc_isAgg rfl rfl rfl ?_
    refine vc_isAgg rfl rfl rfl ?_
    refine vc_call c_naught (ds := []) (r := PV ((0 : Pt))) (fun _ => rfl) rfl (⟨rfl, rfl⟩) ?_
    refine vc_eqlN (m := 2) eqT28 (xs := [p.x.val, p.y.val]) (ys := [((0 : Pt)).x.val, ((0 : Pt)).y.val]) (by exact fun _ => rfl) (by exact fun _ => rfl) rfl rfl (bnd2 (F_lt _) (F_lt _)) (bnd2 (F_lt _) (F_lt _)) rfl ?_
    refine vc_isBool (by show Bo (decide _) = _; rw [PV_dec, decide_eq_true h0]; rfl) ?_
    refine vc_nil ?_
    refine JF.ret (by kernel_rfl) ?_
    refine hE.fin3 3 [Bo (decide ([p.x.val, p.y.val] = [((0 : Pt)).x.val, ((0 : Pt)).y.val])), PV ((0 : Pt)), PV p] rfl rfl (cm := []) (ds := [.v (.at (.agg [.lit (.int .u64 0), .lit (.int .u64 0), .lit (.int .u64 0), .lit (.int .u64 0)]))]) (by kernel_rfl) rfl (.inr rfl) ?_
    refine vc_nil ?_
    show nums [0] = _
    rw [if_pos h0]
    kernel_rfl
  · refine Jd.go2 (E := E_mont9_1) 1 [PV p] rfl rfl rfl [.isAgg 0 8, .isAgg 0 8, .call 36 ⟨none, [], .two (.one .v)⟩ [] 1, .bin .eql 28 (.at (.one (.var 0))) (.at (.one (.var 1))) 2, .isBool 2 false, .call 23 ⟨none, [.one (.sv 4)], .two (.one .v)⟩ [.one (.rc (.lst [.lit (.int .u64 1), .lit (.int .u64 0), .lit (.int .u64 0), .lit (.int .u64 0), .part 0 4 8, .part 0 5 8, .part 0 6 8, .part 0 7 8]))] 3, .isAgg 3 4] (by kernel_rfl) ?_
    refine vc_isAgg rfl rfl rfl ?_
    refine vc_isAgg rfl rfl rfl ?_
    refine vc_call c_naught (ds := []) (r := PV ((0 : Pt))) (fun _ => rfl) rfl (⟨rfl, rfl⟩) ?_
    refine vc_eqlN (m := 2) eqT28 (xs := [p.x.val, p.y.val]) (ys := [((0 : Pt)).x.val, ((0 : Pt)).y.val]) (by exact fun _ => rfl) (by exact fun _ => rfl) rfl rfl (bnd2 (F_lt _) (F_lt _)) (bnd2 (F_lt _) (F_lt _)) rfl ?_
    refine vc_isBool (by show Bo (decide _) = _; rw [PV_dec, decide_eq_false h0]; rfl) ?_
    refine vc_call c_AddF (ds := [fn [1, p.y]]) (r := fn [sumF [1, p.y]]) (fun _ => rfl) rfl (⟨_, (Nat.le_of_ble_eq_true rfl), rfl, rfl⟩) ?_
    refine vc_isAgg rfl rfl rfl ?_
    refine vc_nil ?_
    refine JF.ret (by kernel_rfl) ?_
    refine hE.fin3 4 [fn [sumF [1, p.y]], Bo (decide ([p.x.val, p.y.val] = [((0 : Pt)).x.val, ((0 : Pt)).y.val])), PV ((0 : Pt)), PV p] rfl rfl (cm := [.isAgg 3 4]) (ds := [.v (.at (.one (.var 3)))]) (by kernel_rfl) rfl (.inr rfl) ?_
    refine vc_isAgg rfl rfl rfl ?_
    refine vc_nil ?_
    show fn [sumF [1, p.y]] = _
    rw [if_neg h0, sum2]

noncomputable def E_bytes9_0 : Option Ran := ex1 (cfg 93) (fun n => if n = 33 then some true else if n = 2 then some false else if n = 19 then some true else if n = 20 then some true else if n = 21 then some true else if n = 25 then some true else if n = 30 then some true else none) 0 4000 30000 1 (inSt (v1v)) [.c (bodyOf Try.f9)] .nor
theorem c_bytes9 : Ctr Try.prog glb0 9 v1v (fun ds r => ∃ lx, isB lx ∧ lx.length = 32 ∧ ds = [bts lx] ∧ r = Bo true) := by
  refine ctr (C := cfg 93) mixed ti_ok Try.func9 (by kernel_rfl) ?_
  rintro ds r X Q hl ⟨lx, hbx, h32x, rfl, rfl⟩ hE
  obtain ⟨x0, x1, x2, x3, x4, x5, x6, x7, x8, x9, x10, x11, x12, x13, x14, x15, x16, x17, x18, x19, x20, x21, x22, x23, x24, x25, x26, x27, x28, x29, x30, x31, rfl⟩ := list32 h32x
  obtain ⟨p, hp⟩ : ∃ p, p = pickP [x0, x1, x2, x3, x4, x5, x6, x7, x8, x9, x10, x11, x12, x13, x14, x15, x16, x17, x18, x19, x20, x21, x22, x23, x24, x25, x26, x27, x28, x29, x30, x31] := ⟨_, rfl⟩
  have hyl : p.y.val < 2 ^ 255 := Nat.lt_trans p.y.isLt (by decide)
  refine Jd.go2 (E := E_bytes9_0) 1 [bts [x0, x1, x2, x3, x4, x5, x6, x7, x8, x9, x10, x11, x12, x13, x14, x15, x16, x17, x18, x19, x20, x21, x22, x23, x24, x25, x26, x27, x28, x29, x30, x31]] rfl rfl rfl [.isAgg 0 32, .call 12 ⟨none, [], .two (.one .v)⟩ [] 1, .un .not (.at (.one (.var 1))) 2, .isBool 2 false, .isAgg 0 32, .call 26 ⟨none, [.one .v], .two (.one .v)⟩ [.one (.a (.var 0))] 3, .isAgg 3 8, .isAgg 3 8, .call 15 ⟨none, [.one .v], .two (.one (.s 1 5))⟩ [.one (.a (.var 3))] 4, .call 13 ⟨none, [.one (.sv 1)], .tup [.one .v, .one .v]⟩ [.one (.rc (.all 4))] 5, .tupc 5 0 6, .tupc 5 1 7, .isAgg 6 8, .call 37 ⟨none, [.one .v], .two (.one (.s 1 5))⟩ [.agg [.a (.part 3 4 8), .a (.part 3 5 8), .a (.part 3 6 8), .a (.part 3 7 8)]] 8, .ltlen 31 8 1, .get (.all 8) 31 9, .bin .rem 24 (.at (.one (.part 3 0 8))) (.at (.one (.lit (.int .u64 2)))) 10, .conv 24 5 (.at (.one (.var 10))) 11, .bin .mul 5 (.at (.one (.var 11))) (.at (.one (.lit (.int .u8 128)))) 12, .bin .add 5 (.at (.one (.var 9))) (.at (.one (.var 12))) 13, .ltlen 31 8 1, .isOne (.var 13), .set (.all 8) 31 (.var 13) 14, .isAgg 3 8, .isAgg 3 8, .isAgg 3 8, .isAgg 3 8, .isAgg 3 8, .isAgg 3 8, .isAgg 3 8, .isAgg 3 8, .isAgg 3 8, .isAgg 3 8, .isAgg 3 8, .isAgg 3 8, .isAgg 3 8, .isAgg 3 8, .isAgg 3 8, .isAgg 3 8, .call 32 ⟨none, [.one (.sv 8)], .two (.one .v)⟩ [.one (.rc (.lst [.part 3 0 8, .part 3 1 8, .part 3 2 8, .part 3 3 8, .part 3 4 8, .part 3 5 8, .part 3 6 8, .part 3 7 8, .part 3 0 8, .part 3 1 8, .part 3 2 8, .part 3 3 8, .part 3 4 8, .part 3 5 8, .part 3 6 8, .part 3 7 8, .part 3 0 8, .part 3 1 8, .part 3 2 8, .part 3 3 8, .part 3 4 8, .part 3 5 8, .part 3 6 8, .part 3 7 8, .part 3 0 8, .part 3 1 8, .part 3 2 8, .part 3 3 8, .part 3 4 8, .part 3 5 8, .part 3 6 8, .part 3 7 8, .part 3 0 8, .part 3 1 8, .part 3 2 8, .part 3 3 8, .part 3 4 8, .part 3 5 8, .part 3 6 8, .part 3 7 8, .part 3 0 8, .part 3 1 8, .part 3 2 8, .part 3 3 8, .part 3 4 8, .part 3 5 8, .part 3 6 8, .part 3 7 8, .part 3 0 8, .part 3 1 8, .part 3 2 8, .part 3 3 8, .part 3 4 8, .part 3 5 8, .part 3 6 8, .part 3 7 8, .part 3 0 8, .part 3 1 8, .part 3 2 8, .part 3 3 8, .part 3 4 8, .part 3 5 8, .part 3 6 8, .part 3 7 8]))] 15, .isAgg 15 8, .isAgg 3 8, .call 38 ⟨none, [.one .v], .two (.one .v)⟩ [.one (.a (.var 3))] 16, .isAgg 16 4, .tostr (.all 4) 17, .tostr (.all 14) 18, .bin .eql 9 (.at (.one (.var 17))) (.at (.one (.var 18))) 19, .isBool 19 true, .isBool 19 true, .bin .eql 29 (.at (.one (.var 7))) (.at (.one (.lit (.int .i64 0)))) 20, .isBool 19 true, .isBool 20 true, .isAgg 6 8, .isBool 20 true, .isAgg 3 8, .isBool 20 true, .bin .eql 28 (.at (.one (.var 6))) (.at (.one (.var 3))) 21, .isBool 20 true, .isBool 21 true, .isAgg 3 8, .isBool 21 true, .call 39 ⟨none, [.one .v], .two (.one .v)⟩ [.one (.a (.var 3))] 22, .isBool 21 true, .isAgg 15 8, .isBool 21 true, .call 36 ⟨none, [], .two (.one .v)⟩ [] 23, .isBool 21 true, .bin .eql 28 (.at (.one (.var 15))) (.at (.one (.var 23))) 24, .isBool 21 true, .bin .eql 4 (.at (.one (.var 22))) (.at (.one (.var 24))) 25, .isBool 21 true, .isBool 25 true, .call 40 ⟨none, [], .two (.one .v)⟩ [] 26, .isBool 25 true, .call 41 ⟨none, [], .two (.one .v)⟩ [] 27, .isBool 25 true, .call 28 ⟨none, [.one .v, .one .v], .two (.one .v)⟩ [.one (.a (.var 26)), .one (.a (.var 27))] 28, .isBool 25 true, .call 36 ⟨none, [], .two (.one .v)⟩ [] 29, .isBool 25 true, .bin .eql 28 (.at (.one (.var 28))) (.at (.one (.var 29))) 30, .isBool 25 true, .isBool 30 true, .call 40 ⟨none, [], .two (.one .v)⟩ [] 31, .isBool 30 true, .call 39 ⟨none, [.one .v], .two (.one .v)⟩ [.one (.a (.var 31))] 32, .isBool 30 true, .un .not (.at (.one (.var 32))) 33, .isBool 30 true, .isBool 33 true, .isAgg 16 4, .isBool 33 true, .isBool 33 true, .isBool 33 true, .isBool 33 true, .call 21 ⟨none, [.one .v, .one .v], .two (.one .v)⟩ [.agg [.a (.lit (.int .u64 1)), .a (.lit (.int .u64 0)), .a (.lit (.int .u64 0)), .a (.lit (.int .u64 0))], .agg [.a (.part 3 4 8), .a (.part 3 5 8), .a (.part 3 6 8), .a (.part 3 7 8)]] 34, .isBool 33 true, .isAgg 16 4, .isAgg 34 4, .isBool 33 true, .call 20 ⟨none, [.one (.sv 4)], .two (.one .v)⟩ [.one (.rc (.lst [.part 16 0 4, .part 16 1 4, .part 16 2 4, .part 16 3 4, .part 34 0 4, .part 34 1 4, .part 34 2 4, .part 34 3 4]))] 35, .isBool 33 true, .isAgg 3 8, .isBool 33 true, .call 42 ⟨none, [.one .v], .two (.one .v)⟩ [.one (.a (.var 3))] 36, .isBool 33 true, .bin .eql 26 (.at (.one (.var 35))) (.at (.one (.var 36))) 37, .isBool 33 true] (by kernel_rfl) ?_
  refine vc_isAgg rfl rfl rfl ?_
  refine vc_call c_awake9 (ds := []) (r := Bo true) (fun _ => rfl) rfl (⟨rfl, rfl⟩) ?_
  refine vc_not (fun _ => rfl) rfl ?_
  refine vc_isBool (rfl) ?_
  refine vc_isAgg rfl rfl rfl ?_
  refine vc_call c_pick (ds := [bts [x0, x1, x2, x3, x4, x5, x6, x7, x8, x9, x10, x11, x12, x13, x14, x15, x16, x17, x18, x19, x20, x21, x22, x23, x24, x25, x26, x27, x28, x29, x30, x31]]) (r := PV p) (fun _ => rfl) rfl (⟨_, hbx, rfl, rfl, by rw [hp]⟩) ?_
  refine vc_isAgg rfl rfl rfl ?_
  refine vc_isAgg rfl rfl rfl ?_
  refine vc_call c_bytesP (ds := [PV p]) (r := bts (bytesOf 32 (pnum p))) (fun _ => rfl) rfl (⟨_, rfl, rfl⟩) ?_
  refine vc_call c_readP32 (ds := [bts (bytesOf 32 (pnum p))]) (r := Value.tuple #[PV p, I 0]) (fun _ => rfl) rfl (⟨_, bytesOf_isB _ _, bytesOf_len _ _, rfl, by rw [read_bytes]; rfl⟩) ?_
  refine vc_tupc (fun _ => rfl) rfl rfl ?_
  refine vc_tupc (fun _ => rfl) rfl rfl ?_
  refine vc_isAgg rfl rfl rfl ?_
  refine vc_call c_bytes (ds := [nums [p.y.val]]) (r := bts (bytesOf 32 p.y.val)) (fun _ => rfl) rfl (⟨_, (F_lt p.y), rfl, rfl⟩) ?_
  refine vc_ltlen rfl (by simp [bytesOf_len]) ?_
  refine vc_get (cl := (bytesOf 32 p.y.val).map (IK .u8)) (x := IK .u8 (p.y.val / 256 ^ 31 % 256)) (by exact fun _ => rfl) (by rw [List.getElem?_map, bytesOf_get 32 _ 31 (by decide)]; rfl) rfl ?_
  refine vc_remU (k := .u64) (x := p.x.val % 18446744073709551616) (y := 2) (by exact fun _ => rfl) (by exact fun _ => rfl) (by decide) rfl ?_
  refine vc_conv_u8 (q := .u64) (x := p.x.val % 18446744073709551616 % 2) (by kernel_rfl) (by kernel_rfl) (by exact fun _ => rfl) rfl ?_
  rw [show p.x.val % 18446744073709551616 % 2 % 256 = p.x.val % 2 by omega]
  refine vc_mul8 (x := p.x.val % 2) (y := 128) (by exact fun _ => rfl) (by exact fun _ => rfl) rfl ?_
  refine vc_add8 (x := p.y.val / 256 ^ 31 % 256) (y := (p.x.val % 2) * 128 % 256) (by exact fun _ => rfl) (by exact fun _ => rfl) rfl ?_
  refine vc_ltlen rfl (by simp [bytesOf_len]) ?_
  refine vc_isOne rfl ?_
  refine vc_set (cl := (bytesOf 32 p.y.val).map (IK .u8)) (y := IK .u8 ((p.y.val / 256 ^ 31 % 256 + (p.x.val % 2) * 128 % 256) % 256)) (by exact fun _ => rfl) (by exact fun _ => rfl) (by simp [bytesOf_len]) rfl ?_
  rw [← List.map_set, bytes_top2 _ _ hyl (Nat.mod_lt _ (by decide))]
  refine vc_isAgg rfl rfl rfl ?_
  refine vc_isAgg rfl rfl rfl ?_
  refine vc_isAgg rfl rfl rfl ?_
  refine vc_isAgg rfl rfl rfl ?_
  refine vc_isAgg rfl rfl rfl ?_
  refine vc_isAgg rfl rfl rfl ?_
  refine vc_isAgg rfl rfl rfl ?_
  refine vc_isAgg rfl rfl rfl ?_
  refine vc_isAgg rfl rfl rfl ?_
  refine vc_isAgg rfl rfl rfl ?_
  refine vc_isAgg rfl rfl rfl ?_
  refine vc_isAgg rfl rfl rfl ?_
  refine vc_isAgg rfl rfl rfl ?_
  refine vc_isAgg rfl rfl rfl ?_
  refine vc_isAgg rfl rfl rfl ?_
  refine vc_isAgg rfl rfl rfl ?_
  refine vc_call c_addP (ds := [pts [p, p, p, p, p, p, p, p]]) (r := PV (Ed.sumP [p, p, p, p, p, p, p, p])) (fun _ => rfl) rfl (⟨_, (Nat.le_of_ble_eq_true rfl), rfl, rfl⟩) ?_
  refine vc_isAgg rfl rfl rfl ?_
  refine vc_isAgg rfl rfl rfl ?_
  refine vc_call c_mont (ds := [PV p]) (r := fn [(1 + p.y) * inv (1 - p.y)]) (fun _ => rfl) rfl (⟨_, rfl, rfl⟩) ?_
  refine vc_isAgg rfl rfl rfl ?_
  refine vc_tostrB (u := bytesOf 32 (pnum p)) (bytesOf_isB _ _) (by exact fun _ => rfl) rfl ?_
  refine vc_tostrB (u := bytesOf 32 (pnum p)) (bytesOf_isB _ _) (by exact fun _ => rfl) rfl ?_
  refine vc_eqlS (u := bytesOf 32 (pnum p)) (t := bytesOf 32 (pnum p)) (bytesOf_isB _ _) (bytesOf_isB _ _) (by exact fun _ => rfl) (by exact fun _ => rfl) rfl ?_
  refine vc_isBool (by show Bo (decide _) = _; rw [decide_eq_true rfl]; rfl) ?_
  refine vc_isBool (by show Bo (decide _) = _; rw [decide_eq_true rfl]; rfl) ?_
  refine vc_cmp (op := .eql) (x := 0) (y := (0 : Nat)) (k := .i64) (t := decide (0 = 0)) (by exact fun _ => rfl) (by exact fun _ => rfl) rfl rfl ?_
  refine vc_isBool (by show Bo (decide _) = _; rw [decide_eq_true rfl]; rfl) ?_
  refine vc_isBool (rfl) ?_
  refine vc_isAgg rfl rfl rfl ?_
  refine vc_isBool (rfl) ?_
  refine vc_isAgg rfl rfl rfl ?_
  refine vc_isBool (rfl) ?_
  refine vc_eqlN (m := 2) eqT28 (xs := [p.x.val, p.y.val]) (ys := [p.x.val, p.y.val]) (by exact fun _ => rfl) (by exact fun _ => rfl) rfl rfl (bnd2 (F_lt _) (F_lt _)) (bnd2 (F_lt _) (F_lt _)) rfl ?_
  refine vc_isBool (rfl) ?_
  refine vc_isBool (by show Bo (decide _) = _; rw [PV_dec, decide_eq_true (rfl)]; rfl) ?_
  refine vc_isAgg rfl rfl rfl ?_
  refine vc_isBool (by show Bo (decide _) = _; rw [PV_dec, decide_eq_true (rfl)]; rfl) ?_
  refine vc_call c_smallP (ds := [PV p]) (r := Bo (decide (Ed.smul 8 p = 0))) (fun _ => rfl) rfl (⟨_, rfl, rfl⟩) ?_
  refine vc_isBool (by show Bo (decide _) = _; rw [PV_dec, decide_eq_true (rfl)]; rfl) ?_
  refine vc_isAgg rfl rfl rfl ?_
  refine vc_isBool (by show Bo (decide _) = _; rw [PV_dec, decide_eq_true (rfl)]; rfl) ?_
  refine vc_call c_naught (ds := []) (r := PV ((0 : Pt))) (fun _ => rfl) rfl (⟨rfl, rfl⟩) ?_
  refine vc_isBool (by show Bo (decide _) = _; rw [PV_dec, decide_eq_true (rfl)]; rfl) ?_
  refine vc_eqlN (m := 2) eqT28 (xs := [(Ed.sumP [p, p, p, p, p, p, p, p]).x.val, (Ed.sumP [p, p, p, p, p, p, p, p]).y.val]) (ys := [((0 : Pt)).x.val, ((0 : Pt)).y.val]) (by exact fun _ => rfl) (by exact fun _ => rfl) rfl rfl (bnd2 (F_lt _) (F_lt _)) (bnd2 (F_lt _) (F_lt _)) rfl ?_
  refine vc_isBool (by show Bo (decide _) = _; rw [PV_dec, decide_eq_true (rfl)]; rfl) ?_
  refine vc_eqlBo (by kernel_rfl) (by exact fun _ => rfl) (by exact fun _ => rfl) rfl ?_
  refine vc_isBool (by show Bo (decide _) = _; rw [PV_dec, decide_eq_true (rfl)]; rfl) ?_
  refine vc_isBool (by show Bo (_ == decide _) = _; rw [PV_dec, sumP8]; simp [Bo]) ?_
  refine vc_call c_base (ds := []) (r := PV Ed.Bp) (fun _ => rfl) rfl (⟨rfl, rfl⟩) ?_
  refine vc_isBool (by show Bo (_ == decide _) = _; rw [PV_dec, sumP8]; simp [Bo]) ?_
  refine vc_call c_order (ds := []) (r := nums [Lo]) (fun _ => rfl) rfl (⟨rfl, rfl⟩) ?_
  refine vc_isBool (by show Bo (_ == decide _) = _; rw [PV_dec, sumP8]; simp [Bo]) ?_
  refine vc_call c_timesP (ds := [PV Ed.Bp, nums [Lo]]) (r := PV (Ed.smul Lo Ed.Bp)) (fun _ => rfl) rfl (⟨_, _, (by decide), rfl, rfl⟩) ?_
  refine vc_isBool (by show Bo (_ == decide _) = _; rw [PV_dec, sumP8]; simp [Bo]) ?_
  refine vc_call c_naught (ds := []) (r := PV ((0 : Pt))) (fun _ => rfl) rfl (⟨rfl, rfl⟩) ?_
  refine vc_isBool (by show Bo (_ == decide _) = _; rw [PV_dec, sumP8]; simp [Bo]) ?_
  refine vc_eqlN (m := 2) eqT28 (xs := [(Ed.smul Lo Ed.Bp).x.val, (Ed.smul Lo Ed.Bp).y.val]) (ys := [((0 : Pt)).x.val, ((0 : Pt)).y.val]) (by exact fun _ => rfl) (by exact fun _ => rfl) rfl rfl (bnd2 (F_lt _) (F_lt _)) (bnd2 (F_lt _) (F_lt _)) rfl ?_
  refine vc_isBool (by show Bo (_ == decide _) = _; rw [PV_dec, sumP8]; simp [Bo]) ?_
  refine vc_isBool (by show Bo (decide _) = _; rw [PV_dec, decide_eq_true ((show Ed.smul Lo Ed.Bp = 0 from Ed.base_order))]; rfl) ?_
  refine vc_call c_base (ds := []) (r := PV Ed.Bp) (fun _ => rfl) rfl (⟨rfl, rfl⟩) ?_
  refine vc_isBool (by show Bo (decide _) = _; rw [PV_dec, decide_eq_true ((show Ed.smul Lo Ed.Bp = 0 from Ed.base_order))]; rfl) ?_
  refine vc_call c_smallP (ds := [PV Ed.Bp]) (r := Bo (decide (Ed.smul 8 Ed.Bp = 0))) (fun _ => rfl) rfl (⟨_, rfl, rfl⟩) ?_
  refine vc_isBool (by show Bo (decide _) = _; rw [PV_dec, decide_eq_true ((show Ed.smul Lo Ed.Bp = 0 from Ed.base_order))]; rfl) ?_
  refine vc_not (fun _ => rfl) rfl ?_
  refine vc_isBool (by show Bo (decide _) = _; rw [PV_dec, decide_eq_true ((show Ed.smul Lo Ed.Bp = 0 from Ed.base_order))]; rfl) ?_
  refine vc_isBool (by show Bo (!decide _) = _; rw [decide_eq_false Ed.base_not_small]; rfl) ?_
  refine vc_isAgg rfl rfl rfl ?_
  refine vc_isBool (by show Bo (!decide _) = _; rw [decide_eq_false Ed.base_not_small]; rfl) ?_
  refine vc_isBool (by show Bo (!decide _) = _; rw [decide_eq_false Ed.base_not_small]; rfl) ?_
  refine vc_isBool (by show Bo (!decide _) = _; rw [decide_eq_false Ed.base_not_small]; rfl) ?_
  refine vc_isBool (by show Bo (!decide _) = _; rw [decide_eq_false Ed.base_not_small]; rfl) ?_
  refine vc_call c_SubF (ds := [fn [1], fn [p.y]]) (r := fn [1 - p.y]) (fun _ => rfl) rfl (⟨_, _, rfl, rfl⟩) ?_
  refine vc_isBool (by show Bo (!decide _) = _; rw [decide_eq_false Ed.base_not_small]; rfl) ?_
  refine vc_isAgg rfl rfl rfl ?_
  refine vc_isAgg rfl rfl rfl ?_
  refine vc_isBool (by show Bo (!decide _) = _; rw [decide_eq_false Ed.base_not_small]; rfl) ?_
  refine vc_call c_MulF (ds := [fn [(1 + p.y) * inv (1 - p.y), 1 - p.y]]) (r := fn [prodF [(1 + p.y) * inv (1 - p.y), 1 - p.y]]) (fun _ => rfl) rfl (⟨_, (Nat.le_of_ble_eq_true rfl), rfl, rfl⟩) ?_
  refine vc_isBool (by show Bo (!decide _) = _; rw [decide_eq_false Ed.base_not_small]; rfl) ?_
  refine vc_isAgg rfl rfl rfl ?_
  refine vc_isBool (by show Bo (!decide _) = _; rw [decide_eq_false Ed.base_not_small]; rfl) ?_
  refine vc_call c_mont9 (ds := [PV p]) (r := fn [if p = 0 then 0 else 1 + p.y]) (fun _ => rfl) rfl (⟨_, rfl, rfl⟩) ?_
  refine vc_isBool (by show Bo (!decide _) = _; rw [decide_eq_false Ed.base_not_small]; rfl) ?_
  refine vc_eqlN (m := 1) eqT26 (xs := [(prodF [(1 + p.y) * inv (1 - p.y), 1 - p.y]).val]) (ys := [(if p = 0 then 0 else 1 + p.y).val]) (by exact fun _ => rfl) (by exact fun _ => rfl) rfl rfl (bnd1 (F_lt _)) (bnd1 (F_lt _)) rfl ?_
  refine vc_isBool (by show Bo (!decide _) = _; rw [decide_eq_false Ed.base_not_small]; rfl) ?_
  refine vc_nil ?_
  refine JF.ret (by kernel_rfl) ?_
  refine hE.fin3 38 [Bo (decide ([(prodF [(1 + p.y) * inv (1 - p.y), 1 - p.y]).val] = [(if p = 0 then 0 else 1 + p.y).val])), fn [if p = 0 then 0 else 1 + p.y], fn [prodF [(1 + p.y) * inv (1 - p.y), 1 - p.y]], fn [1 - p.y], Bo (!(decide (Ed.smul 8 Ed.Bp = 0))), Bo (decide (Ed.smul 8 Ed.Bp = 0)), PV Ed.Bp, Bo (decide ([(Ed.smul Lo Ed.Bp).x.val, (Ed.smul Lo Ed.Bp).y.val] = [((0 : Pt)).x.val, ((0 : Pt)).y.val])), PV ((0 : Pt)), PV (Ed.smul Lo Ed.Bp), nums [Lo], PV Ed.Bp, Bo (((decide (Ed.smul 8 p = 0)) == (decide ([(Ed.sumP [p, p, p, p, p, p, p, p]).x.val, (Ed.sumP [p, p, p, p, p, p, p, p]).y.val] = [((0 : Pt)).x.val, ((0 : Pt)).y.val])))), Bo (decide ([(Ed.sumP [p, p, p, p, p, p, p, p]).x.val, (Ed.sumP [p, p, p, p, p, p, p, p]).y.val] = [((0 : Pt)).x.val, ((0 : Pt)).y.val])), PV ((0 : Pt)), Bo (decide (Ed.smul 8 p = 0)), Bo (decide ([p.x.val, p.y.val] = [p.x.val, p.y.val])), Bo (decide (0 = 0)), Bo (decide (bytesOf 32 (pnum p) = bytesOf 32 (pnum p))), STR (bytesOf 32 (pnum p)), STR (bytesOf 32 (pnum p)), fn [(1 + p.y) * inv (1 - p.y)], PV (Ed.sumP [p, p, p, p, p, p, p, p]), bts (bytesOf 32 (pnum p)), IK .u8 ((p.y.val / 256 ^ 31 % 256 + (p.x.val % 2) * 128 % 256) % 256), IK .u8 ((p.x.val % 2) * 128 % 256), IK .u8 (p.x.val % 2), IK .u64 (p.x.val % 18446744073709551616 % 2), IK .u8 (p.y.val / 256 ^ 31 % 256), bts (bytesOf 32 p.y.val), I 0, PV p, Value.tuple #[PV p, I 0], bts (bytesOf 32 (pnum p)), PV p, Bo (!true), Bo true, bts [x0, x1, x2, x3, x4, x5, x6, x7, x8, x9, x10, x11, x12, x13, x14, x15, x16, x17, x18, x19, x20, x21, x22, x23, x24, x25, x26, x27, x28, x29, x30, x31]] rfl rfl (cm := []) (ds := [.v (.at (.one (.var 37)))]) (by kernel_rfl) rfl (.inr rfl) ?_
  refine vc_nil ?_
  show Bo (decide ([(prodF [(1 + p.y) * inv (1 - p.y), 1 - p.y]).val] = [(if p = 0 then 0 else 1 + p.y).val])) = _
  rw [prod2, mont_eq, decide_eq_true rfl]

end Go.Proofs.Ytpeafegfjhljmaa

/-
  CurveBytes: any point's bytes are y's, with x's oddness, and are read as it; a small one's eighth is the naught; the base is not small, but so many times the order the naught: for every input, without a condition.
-/
open Go Go.Sx Go.Proofs Go.ChangeShapes Go.WideShapes Go.ChangeAt
open Ed (F P inv pw Pt)
namespace Go.Proofs.Ytpeafegfjhljmaa
set_option maxRecDepth 100000
set_option maxHeartbeats 4000000
theorem own : ownKnob Try.prog.godebug = none := by kernel_rfl
theorem laidOut : laidOutB Try.prog = true := by kernel_rfl
theorem bytes9_lifted (os : Os) (started : os.Started) (H : Type) (enc : TypeId × Value → H) :
    ReturnsInHanded {} Try.checked os 9 .any (Rows.curveBytesSpec.pre6 enc Try.prog Try.f9 Rows.curveBytesRow.domain false) (Rows.curveBytesSpec.post enc Try.prog Try.f9 false true false false) := by
  refine returnsInHanded_of_change (C := Try.checked) own started (by kernel_rfl) Try.func9
    (ChangeSpec.witness6 (enc := enc) (C := Try.checked) false ⟨#[], #[.agg (List.replicate 32 (.int .u8 0)).toArray], []⟩ 100 (by kernel_rfl) (by kernel_rfl) (by kernel_rfl) (by kernel_rfl)) ?_
  intro W base args ds gs before hval hW hcnd _
  have hlt := hW.lt
  have hW0 := hW
  obtain ⟨p, q, hA, hV, rfl, hfz, hnd⟩ := hW0
  obtain ⟨rfl, rfl⟩ := trodVars_none hV
  replace hA : DataW.TrodAll enc Try.prog W 0 (fun _ => true) true [44] args.toList ds p := by rw [show Try.f9.params.toList = [44] by kernel_rfl] at hA; exact hA
  obtain ⟨v0, d0, rfl, rfl, h0⟩ := trodAll_one hA
  obtain ⟨l0, rfl, l0l, l0b⟩ := open_arrN (n := 32) (e := 5) (k := .u8) (by kernel_rfl) (by kernel_rfl) (by kernel_rfl) (by kernel_rfl) rfl (hval 0 44 v0 (by kernel_rfl) rfl) h0
  replace l0b : isB l0 := fun x hx => l0b x hx
  have hcall := calls_of_ctr (A := fun _ => True) c_bytes9 Try.func9 (by kernel_rfl) (by kernel_rfl) (w := W) (vs := [_]) (ds := [bts l0]) (r := Bo true) trivial ⟨rfl, trivial⟩ ⟨l0, l0b, l0l, rfl, rfl⟩
  refine hcall.mono ?_
  rintro e W' ⟨v, rfl, hr, hb⟩
  obtain rfl : v = Bo true := hr
  exact ⟨_, rfl, (law_post laidOut (by kernel_rfl) rfl (tb := 4) (by kernel_rfl) (by kernel_rfl) hW hb rfl).1⟩
theorem bytes9_holds : Rows.CurveBytesSaid :=
  OpenClaim.holds_of_wide 9 Try.f9 rfl rfl rfl rfl rfl rfl rfl ⟨rfl, rfl, rfl, rfl, rfl⟩ rfl rfl rfl rfl rfl (by kernel_rfl) Try.func9 (by kernel_rfl)
    (of_decide_eq_true (by kernel_rfl)) (by unfold Func.isWrapper; rw [if_neg (by decide +kernel)]; exact ⟨rfl, rfl⟩)
    (fun os started H enc _ => bytes9_lifted os started H enc)
end Go.Proofs.Ytpeafegfjhljmaa
