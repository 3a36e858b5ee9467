/- CurveOrders: sums do not hang on their order, nor on how they are put together; n and m times together are n + m times: for every input, without a condition. -/
import Derived.Test.YtpeafegfjhljmaaVS
import Derived.Test.YtpeafegfjhljmaaVP
import Derived.Test.YtpeafegfjhljmaaRows
/-
  Functions of the program: what each computes.
-/
open Go Go.Sx Go.Proofs
open Ed (F P inv pw Pt)
namespace Go.Proofs.Ytpeafegfjhljmaa
set_option maxRecDepth 100000
set_option maxHeartbeats 4000000
noncomputable def E_orders_0 : Option Ran := ex1 (cfg 83) (fun n => if n = 4 then some false else if n = 13 then some false else if n = 18 then some false else if n = 21 then some false else none) 0 4000 30000 3 (inSt (v3v)) [.c (bodyOf Try.f7)] .nor
noncomputable def E_orders_1 : Option Ran := ex1 (cfg 83) (fun n => if n = 4 then some false else if n = 13 then some false else if n = 18 then some false else if n = 21 then some false else none) 0 4000 50000 3 (inSt (v3v)) [.c (bodyOf Try.f7)] .nor
theorem c_orders : Ctr Try.prog glb0 7 v3v (fun ds r => ∃ lx ly lz, isB lx ∧ lx.length = 32 ∧ isB ly ∧ ly.length = 32 ∧ isB lz ∧ lz.length = 32 ∧ ds = [bts lx, bts ly, bts lz] ∧ r = Bo true) := by
  refine ctr (C := cfg 83) mixed ti_ok Try.func7 (by kernel_rfl) ?_
  rintro ds r X Q hl ⟨lx, ly, lz, hbx, h32x, hby, h32y, hbz, h32z, rfl, rfl⟩ hE
  obtain ⟨x0, x1, x2, x3, x4, x5, x6, x7, x8, x9, x10, x11, x12, x13, x14, x15, x16, x17, x18, x19, x20, x21, x22, x23, x24, x25, x26, x27, x28, x29, x30, x31, rfl⟩ := list32 h32x
  obtain ⟨p, hp⟩ : ∃ p, p = pickP [x0, x1, x2, x3, x4, x5, x6, x7, x8, x9, x10, x11, x12, x13, x14, x15, x16, x17, x18, x19, x20, x21, x22, x23, x24, x25, x26, x27, x28, x29, x30, x31] := ⟨_, rfl⟩
  obtain ⟨y0, y1, y2, y3, y4, y5, y6, y7, y8, y9, y10, y11, y12, y13, y14, y15, y16, y17, y18, y19, y20, y21, y22, y23, y24, y25, y26, y27, y28, y29, y30, y31, rfl⟩ := list32 h32y
  obtain ⟨q, hq⟩ : ∃ q, q = pickP [y0, y1, y2, y3, y4, y5, y6, y7, y8, y9, y10, y11, y12, y13, y14, y15, y16, y17, y18, y19, y20, y21, y22, y23, y24, y25, y26, y27, y28, y29, y30, y31] := ⟨_, rfl⟩
  obtain ⟨z0, z1, z2, z3, z4, z5, z6, z7, z8, z9, z10, z11, z12, z13, z14, z15, z16, z17, z18, z19, z20, z21, z22, z23, z24, z25, z26, z27, z28, z29, z30, z31, rfl⟩ := list32 h32z
  obtain ⟨r, hr⟩ : ∃ r, r = pickP [z0, z1, z2, z3, z4, z5, z6, z7, z8, z9, z10, z11, z12, z13, z14, z15, z16, z17, z18, z19, z20, z21, z22, z23, z24, z25, z26, z27, z28, z29, z30, z31] := ⟨_, rfl⟩
  have q5 := hbx x5 (by simp)
  have r5 := hby y5 (by simp)
  refine Jd.go2 (E := E_orders_1) 3 [bts [z0, z1, z2, z3, z4, z5, z6, z7, z8, z9, z10, z11, z12, z13, z14, z15, z16, z17, z18, z19, z20, z21, z22, z23, z24, z25, z26, z27, z28, z29, z30, z31], bts [y0, y1, y2, y3, y4, y5, y6, y7, y8, y9, y10, y11, y12, y13, y14, y15, y16, y17, y18, y19, y20, y21, y22, y23, y24, y25, y26, y27, y28, y29, y30, y31], bts [x0, x1, x2, x3, x4, x5, x6, x7, x8, x9, x10, x11, x12, x13, x14, x15, x16, x17, x18, x19, x20, x21, x22, x23, x24, x25, x26, x27, x28, x29, x30, x31]] rfl rfl rfl [.isAgg 0 32, .isAgg 1 32, .isAgg 2 32, .call 12 ⟨none, [], .two (.one .v)⟩ [] 3, .un .not (.at (.one (.var 3))) 4, .isBool 4 false, .isAgg 0 32, .call 26 ⟨none, [.one .v], .two (.one .v)⟩ [.one (.a (.var 0))] 5, .isAgg 1 32, .call 26 ⟨none, [.one .v], .two (.one .v)⟩ [.one (.a (.var 1))] 6, .isAgg 2 32, .call 26 ⟨none, [.one .v], .two (.one .v)⟩ [.one (.a (.var 2))] 7, .isAgg 5 8, .isAgg 6 8, .isAgg 7 8, .conv 5 24 (.at (.one (.part 0 5 32))) 8, .bin .add 24 (.at (.one (.var 8))) (.at (.one (.lit (.int .u64 1)))) 9, .conv 5 24 (.at (.one (.part 1 5 32))) 10, .isAgg 5 8, .isAgg 6 8, .isAgg 5 8, .isAgg 6 8, .call 32 ⟨none, [.one (.sv 8)], .two (.one .v)⟩ [.one (.rc (.lst [.part 5 0 8, .part 5 1 8, .part 5 2 8, .part 5 3 8, .part 5 4 8, .part 5 5 8, .part 5 6 8, .part 5 7 8, .part 6 0 8, .part 6 1 8, .part 6 2 8, .part 6 3 8, .part 6 4 8, .part 6 5 8, .part 6 6 8, .part 6 7 8]))] 11, .isAgg 6 8, .isAgg 5 8, .isAgg 6 8, .isAgg 5 8, .call 32 ⟨none, [.one (.sv 8)], .two (.one .v)⟩ [.one (.rc (.lst [.part 6 0 8, .part 6 1 8, .part 6 2 8, .part 6 3 8, .part 6 4 8, .part 6 5 8, .part 6 6 8, .part 6 7 8, .part 5 0 8, .part 5 1 8, .part 5 2 8, .part 5 3 8, .part 5 4 8, .part 5 5 8, .part 5 6 8, .part 5 7 8]))] 12, .bin .neq 28 (.at (.one (.var 11))) (.at (.one (.var 12))) 13, .isBool 13 false, .isAgg 5 8, .isBool 13 false, .isAgg 6 8, .isBool 13 false, .isAgg 5 8, .isAgg 6 8, .isBool 13 false, .call 32 ⟨none, [.one (.sv 8)], .two (.one .v)⟩ [.one (.rc (.lst [.part 5 0 8, .part 5 1 8, .part 5 2 8, .part 5 3 8, .part 5 4 8, .part 5 5 8, .part 5 6 8, .part 5 7 8, .part 6 0 8, .part 6 1 8, .part 6 2 8, .part 6 3 8, .part 6 4 8, .part 6 5 8, .part 6 6 8, .part 6 7 8]))] 14, .isBool 13 false, .isAgg 7 8, .isBool 13 false, .isAgg 14 8, .isAgg 7 8, .isBool 13 false, .call 32 ⟨none, [.one (.sv 8)], .two (.one .v)⟩ [.one (.rc (.lst [.part 14 0 8, .part 14 1 8, .part 14 2 8, .part 14 3 8, .part 14 4 8, .part 14 5 8, .part 14 6 8, .part 14 7 8, .part 7 0 8, .part 7 1 8, .part 7 2 8, .part 7 3 8, .part 7 4 8, .part 7 5 8, .part 7 6 8, .part 7 7 8]))] 15, .isBool 13 false, .isAgg 5 8, .isBool 13 false, .isAgg 6 8, .isBool 13 false, .isAgg 7 8, .isBool 13 false, .isAgg 6 8, .isAgg 7 8, .isBool 13 false, .call 32 ⟨none, [.one (.sv 8)], .two (.one .v)⟩ [.one (.rc (.lst [.part 6 0 8, .part 6 1 8, .part 6 2 8, .part 6 3 8, .part 6 4 8, .part 6 5 8, .part 6 6 8, .part 6 7 8, .part 7 0 8, .part 7 1 8, .part 7 2 8, .part 7 3 8, .part 7 4 8, .part 7 5 8, .part 7 6 8, .part 7 7 8]))] 16, .isBool 13 false, .isAgg 5 8, .isAgg 16 8, .isBool 13 false, .call 32 ⟨none, [.one (.sv 8)], .two (.one .v)⟩ [.one (.rc (.lst [.part 5 0 8, .part 5 1 8, .part 5 2 8, .part 5 3 8, .part 5 4 8, .part 5 5 8, .part 5 6 8, .part 5 7 8, .part 16 0 8, .part 16 1 8, .part 16 2 8, .part 16 3 8, .part 16 4 8, .part 16 5 8, .part 16 6 8, .part 16 7 8]))] 17, .isBool 13 false, .bin .neq 28 (.at (.one (.var 15))) (.at (.one (.var 17))) 18, .isBool 13 false, .isBool 18 false, .isAgg 5 8, .isBool 18 false, .isAgg 6 8, .isBool 18 false, .isAgg 7 8, .isBool 18 false, .isAgg 5 8, .isAgg 6 8, .isAgg 7 8, .isBool 18 false, .call 32 ⟨none, [.one (.sv 8)], .two (.one .v)⟩ [.one (.rc (.lst [.part 5 0 8, .part 5 1 8, .part 5 2 8, .part 5 3 8, .part 5 4 8, .part 5 5 8, .part 5 6 8, .part 5 7 8, .part 6 0 8, .part 6 1 8, .part 6 2 8, .part 6 3 8, .part 6 4 8, .part 6 5 8, .part 6 6 8, .part 6 7 8, .part 7 0 8, .part 7 1 8, .part 7 2 8, .part 7 3 8, .part 7 4 8, .part 7 5 8, .part 7 6 8, .part 7 7 8]))] 19, .isBool 18 false, .isAgg 7 8, .isBool 18 false, .isAgg 6 8, .isBool 18 false, .isAgg 5 8, .isBool 18 false, .isAgg 7 8, .isAgg 6 8, .isAgg 5 8, .isBool 18 false, .call 32 ⟨none, [.one (.sv 8)], .two (.one .v)⟩ [.one (.rc (.lst [.part 7 0 8, .part 7 1 8, .part 7 2 8, .part 7 3 8, .part 7 4 8, .part 7 5 8, .part 7 6 8, .part 7 7 8, .part 6 0 8, .part 6 1 8, .part 6 2 8, .part 6 3 8, .part 6 4 8, .part 6 5 8, .part 6 6 8, .part 6 7 8, .part 5 0 8, .part 5 1 8, .part 5 2 8, .part 5 3 8, .part 5 4 8, .part 5 5 8, .part 5 6 8, .part 5 7 8]))] 20, .isBool 18 false, .bin .neq 28 (.at (.one (.var 19))) (.at (.one (.var 20))) 21, .isBool 18 false, .isBool 21 false, .isAgg 5 8, .isOne (.var 9), .call 28 ⟨none, [.one .v, .one .v], .two (.one .v)⟩ [.one (.a (.var 5)), .agg [.a (.var 9), .a (.lit (.int .u64 0)), .a (.lit (.int .u64 0)), .a (.lit (.int .u64 0))]] 22, .isAgg 5 8, .isOne (.var 10), .call 28 ⟨none, [.one .v, .one .v], .two (.one .v)⟩ [.one (.a (.var 5)), .agg [.a (.var 10), .a (.lit (.int .u64 0)), .a (.lit (.int .u64 0)), .a (.lit (.int .u64 0))]] 23, .isAgg 22 8, .isAgg 23 8, .call 32 ⟨none, [.one (.sv 8)], .two (.one .v)⟩ [.one (.rc (.lst [.part 22 0 8, .part 22 1 8, .part 22 2 8, .part 22 3 8, .part 22 4 8, .part 22 5 8, .part 22 6 8, .part 22 7 8, .part 23 0 8, .part 23 1 8, .part 23 2 8, .part 23 3 8, .part 23 4 8, .part 23 5 8, .part 23 6 8, .part 23 7 8]))] 24, .isAgg 5 8, .bin .add 24 (.at (.one (.var 9))) (.at (.one (.var 10))) 25, .isOne (.var 25), .call 28 ⟨none, [.one .v, .one .v], .two (.one .v)⟩ [.one (.a (.var 5)), .agg [.a (.var 25), .a (.lit (.int .u64 0)), .a (.lit (.int .u64 0)), .a (.lit (.int .u64 0))]] 26, .bin .eql 28 (.at (.one (.var 24))) (.at (.one (.var 26))) 27] (by kernel_rfl) ?_
  refine vc_isAgg rfl rfl rfl ?_
  refine vc_isAgg rfl rfl rfl ?_
  refine vc_isAgg rfl rfl rfl ?_
  refine vc_call c_awake9 (ds := []) (r := Bo true) (fun _ => rfl) rfl (⟨rfl, rfl⟩) ?_
  refine vc_not (fun _ => rfl) rfl ?_
  refine vc_isBool (rfl) ?_
  refine vc_isAgg rfl rfl rfl ?_
  refine vc_call c_pick (ds := [bts [x0, x1, x2, x3, x4, x5, x6, x7, x8, x9, x10, x11, x12, x13, x14, x15, x16, x17, x18, x19, x20, x21, x22, x23, x24, x25, x26, x27, x28, x29, x30, x31]]) (r := PV p) (fun _ => rfl) rfl (⟨_, hbx, rfl, rfl, by rw [hp]⟩) ?_
  refine vc_isAgg rfl rfl rfl ?_
  refine vc_call c_pick (ds := [bts [y0, y1, y2, y3, y4, y5, y6, y7, y8, y9, y10, y11, y12, y13, y14, y15, y16, y17, y18, y19, y20, y21, y22, y23, y24, y25, y26, y27, y28, y29, y30, y31]]) (r := PV q) (fun _ => rfl) rfl (⟨_, hby, rfl, rfl, by rw [hq]⟩) ?_
  refine vc_isAgg rfl rfl rfl ?_
  refine vc_call c_pick (ds := [bts [z0, z1, z2, z3, z4, z5, z6, z7, z8, z9, z10, z11, z12, z13, z14, z15, z16, z17, z18, z19, z20, z21, z22, z23, z24, z25, z26, z27, z28, z29, z30, z31]]) (r := PV r) (fun _ => rfl) rfl (⟨_, hbz, rfl, rfl, by rw [hr]⟩) ?_
  refine vc_isAgg rfl rfl rfl ?_
  refine vc_isAgg rfl rfl rfl ?_
  refine vc_isAgg rfl rfl rfl ?_
  refine vc_conv_u64 (q := .u8) (x := x5) (by kernel_rfl) (by kernel_rfl) (by exact fun _ => rfl) (by omega) rfl ?_
  refine vc_add64 (x := x5) (y := 1) (by exact fun _ => rfl) (by exact fun _ => rfl) rfl fun w9 hw9 => ?_
  rw [Nat.mod_eq_of_lt (by omega)] at hw9
  refine vc_conv_u64 (q := .u8) (x := y5) (by kernel_rfl) (by kernel_rfl) (by exact fun _ => rfl) (by omega) rfl ?_
  refine vc_isAgg rfl rfl rfl ?_
  refine vc_isAgg rfl rfl rfl ?_
  refine vc_isAgg rfl rfl rfl ?_
  refine vc_isAgg rfl rfl rfl ?_
  refine vc_call c_addP (ds := [pts [p, q]]) (r := PV (Ed.sumP [p, q])) (fun _ => rfl) rfl (⟨_, (Nat.le_of_ble_eq_true rfl), rfl, rfl⟩) ?_
  refine vc_isAgg rfl rfl rfl ?_
  refine vc_isAgg rfl rfl rfl ?_
  refine vc_isAgg rfl rfl rfl ?_
  refine vc_isAgg rfl rfl rfl ?_
  refine vc_call c_addP (ds := [pts [q, p]]) (r := PV (Ed.sumP [q, p])) (fun _ => rfl) rfl (⟨_, (Nat.le_of_ble_eq_true rfl), rfl, rfl⟩) ?_
  refine vc_neqN (m := 2) eqT28 (xs := [(Ed.sumP [p, q]).x.val, (Ed.sumP [p, q]).y.val]) (ys := [(Ed.sumP [q, p]).x.val, (Ed.sumP [q, p]).y.val]) (by exact fun _ => rfl) (by exact fun _ => rfl) rfl rfl (bnd2 (F_lt _) (F_lt _)) (bnd2 (F_lt _) (F_lt _)) rfl ?_
  refine vc_isBool (by show Bo (!decide _) = _; rw [PV_dec, decide_eq_true (by rw [sumP2, sumP2, Ed.add_comm])]; rfl) ?_
  refine vc_isAgg rfl rfl rfl ?_
  refine vc_isBool (by show Bo (!decide _) = _; rw [PV_dec, decide_eq_true (by rw [sumP2, sumP2, Ed.add_comm])]; rfl) ?_
  refine vc_isAgg rfl rfl rfl ?_
  refine vc_isBool (by show Bo (!decide _) = _; rw [PV_dec, decide_eq_true (by rw [sumP2, sumP2, Ed.add_comm])]; rfl) ?_
  refine vc_isAgg rfl rfl rfl ?_
  refine vc_isAgg rfl rfl rfl ?_
  refine vc_isBool (by show Bo (!decide _) = _; rw [PV_dec, decide_eq_true (by rw [sumP2, sumP2, Ed.add_comm])]; rfl) ?_
  refine vc_call c_addP (ds := [pts [p, q]]) (r := PV (Ed.sumP [p, q])) (fun _ => rfl) rfl (⟨_, (Nat.le_of_ble_eq_true rfl), rfl, rfl⟩) ?_
  refine vc_isBool (by show Bo (!decide _) = _; rw [PV_dec, decide_eq_true (by rw [sumP2, sumP2, Ed.add_comm])]; rfl) ?_
  refine vc_isAgg rfl rfl rfl ?_
  refine vc_isBool (by show Bo (!decide _) = _; rw [PV_dec, decide_eq_true (by rw [sumP2, sumP2, Ed.add_comm])]; rfl) ?_
  refine vc_isAgg rfl rfl rfl ?_
  refine vc_isAgg rfl rfl rfl ?_
  refine vc_isBool (by show Bo (!decide _) = _; rw [PV_dec, decide_eq_true (by rw [sumP2, sumP2, Ed.add_comm])]; rfl) ?_
  refine vc_call c_addP (ds := [pts [(Ed.sumP [p, q]), r]]) (r := PV (Ed.sumP [(Ed.sumP [p, q]), r])) (fun _ => rfl) rfl (⟨_, (Nat.le_of_ble_eq_true rfl), rfl, rfl⟩) ?_
  refine vc_isBool (by show Bo (!decide _) = _; rw [PV_dec, decide_eq_true (by rw [sumP2, sumP2, Ed.add_comm])]; rfl) ?_
  refine vc_isAgg rfl rfl rfl ?_
  refine vc_isBool (by show Bo (!decide _) = _; rw [PV_dec, decide_eq_true (by rw [sumP2, sumP2, Ed.add_comm])]; rfl) ?_
  refine vc_isAgg rfl rfl rfl ?_
  refine vc_isBool (by show Bo (!decide _) = _; rw [PV_dec, decide_eq_true (by rw [sumP2, sumP2, Ed.add_comm])]; rfl) ?_
  refine vc_isAgg rfl rfl rfl ?_
  refine vc_isBool (by show Bo (!decide _) = _; rw [PV_dec, decide_eq_true (by rw [sumP2, sumP2, Ed.add_comm])]; rfl) ?_
  refine vc_isAgg rfl rfl rfl ?_
  refine vc_isAgg rfl rfl rfl ?_
  refine vc_isBool (by show Bo (!decide _) = _; rw [PV_dec, decide_eq_true (by rw [sumP2, sumP2, Ed.add_comm])]; rfl) ?_
  refine vc_call c_addP (ds := [pts [q, r]]) (r := PV (Ed.sumP [q, r])) (fun _ => rfl) rfl (⟨_, (Nat.le_of_ble_eq_true rfl), rfl, rfl⟩) ?_
  refine vc_isBool (by show Bo (!decide _) = _; rw [PV_dec, decide_eq_true (by rw [sumP2, sumP2, Ed.add_comm])]; rfl) ?_
  refine vc_isAgg rfl rfl rfl ?_
  refine vc_isAgg rfl rfl rfl ?_
  refine vc_isBool (by show Bo (!decide _) = _; rw [PV_dec, decide_eq_true (by rw [sumP2, sumP2, Ed.add_comm])]; rfl) ?_
  refine vc_call c_addP (ds := [pts [p, (Ed.sumP [q, r])]]) (r := PV (Ed.sumP [p, (Ed.sumP [q, r])])) (fun _ => rfl) rfl (⟨_, (Nat.le_of_ble_eq_true rfl), rfl, rfl⟩) ?_
  refine vc_isBool (by show Bo (!decide _) = _; rw [PV_dec, decide_eq_true (by rw [sumP2, sumP2, Ed.add_comm])]; rfl) ?_
  refine vc_neqN (m := 2) eqT28 (xs := [(Ed.sumP [(Ed.sumP [p, q]), r]).x.val, (Ed.sumP [(Ed.sumP [p, q]), r]).y.val]) (ys := [(Ed.sumP [p, (Ed.sumP [q, r])]).x.val, (Ed.sumP [p, (Ed.sumP [q, r])]).y.val]) (by exact fun _ => rfl) (by exact fun _ => rfl) rfl rfl (bnd2 (F_lt _) (F_lt _)) (bnd2 (F_lt _) (F_lt _)) rfl ?_
  refine vc_isBool (by show Bo (!decide _) = _; rw [PV_dec, decide_eq_true (by rw [sumP2, sumP2, Ed.add_comm])]; rfl) ?_
  refine vc_isBool (by show Bo (!decide _) = _; rw [PV_dec, decide_eq_true (by simp only [sumP2]; exact Ed.add_assoc p q r)]; rfl) ?_
  refine vc_isAgg rfl rfl rfl ?_
  refine vc_isBool (by show Bo (!decide _) = _; rw [PV_dec, decide_eq_true (by simp only [sumP2]; exact Ed.add_assoc p q r)]; rfl) ?_
  refine vc_isAgg rfl rfl rfl ?_
  refine vc_isBool (by show Bo (!decide _) = _; rw [PV_dec, decide_eq_true (by simp only [sumP2]; exact Ed.add_assoc p q r)]; rfl) ?_
  refine vc_isAgg rfl rfl rfl ?_
  refine vc_isBool (by show Bo (!decide _) = _; rw [PV_dec, decide_eq_true (by simp only [sumP2]; exact Ed.add_assoc p q r)]; rfl) ?_
  refine vc_isAgg rfl rfl rfl ?_
  refine vc_isAgg rfl rfl rfl ?_
  refine vc_isAgg rfl rfl rfl ?_
  refine vc_isBool (by show Bo (!decide _) = _; rw [PV_dec, decide_eq_true (by simp only [sumP2]; exact Ed.add_assoc p q r)]; rfl) ?_
  refine vc_call c_addP (ds := [pts [p, q, r]]) (r := PV (Ed.sumP [p, q, r])) (fun _ => rfl) rfl (⟨_, (Nat.le_of_ble_eq_true rfl), rfl, rfl⟩) ?_
  refine vc_isBool (by show Bo (!decide _) = _; rw [PV_dec, decide_eq_true (by simp only [sumP2]; exact Ed.add_assoc p q r)]; rfl) ?_
  refine vc_isAgg rfl rfl rfl ?_
  refine vc_isBool (by show Bo (!decide _) = _; rw [PV_dec, decide_eq_true (by simp only [sumP2]; exact Ed.add_assoc p q r)]; rfl) ?_
  refine vc_isAgg rfl rfl rfl ?_
  refine vc_isBool (by show Bo (!decide _) = _; rw [PV_dec, decide_eq_true (by simp only [sumP2]; exact Ed.add_assoc p q r)]; rfl) ?_
  refine vc_isAgg rfl rfl rfl ?_
  refine vc_isBool (by show Bo (!decide _) = _; rw [PV_dec, decide_eq_true (by simp only [sumP2]; exact Ed.add_assoc p q r)]; rfl) ?_
  refine vc_isAgg rfl rfl rfl ?_
  refine vc_isAgg rfl rfl rfl ?_
  refine vc_isAgg rfl rfl rfl ?_
  refine vc_isBool (by show Bo (!decide _) = _; rw [PV_dec, decide_eq_true (by simp only [sumP2]; exact Ed.add_assoc p q r)]; rfl) ?_
  refine vc_call c_addP (ds := [pts [r, q, p]]) (r := PV (Ed.sumP [r, q, p])) (fun _ => rfl) rfl (⟨_, (Nat.le_of_ble_eq_true rfl), rfl, rfl⟩) ?_
  refine vc_isBool (by show Bo (!decide _) = _; rw [PV_dec, decide_eq_true (by simp only [sumP2]; exact Ed.add_assoc p q r)]; rfl) ?_
  refine vc_neqN (m := 2) eqT28 (xs := [(Ed.sumP [p, q, r]).x.val, (Ed.sumP [p, q, r]).y.val]) (ys := [(Ed.sumP [r, q, p]).x.val, (Ed.sumP [r, q, p]).y.val]) (by exact fun _ => rfl) (by exact fun _ => rfl) rfl rfl (bnd2 (F_lt _) (F_lt _)) (bnd2 (F_lt _) (F_lt _)) rfl ?_
  refine vc_isBool (by show Bo (!decide _) = _; rw [PV_dec, decide_eq_true (by simp only [sumP2]; exact Ed.add_assoc p q r)]; rfl) ?_
  refine vc_isBool (by show Bo (!decide _) = _; rw [PV_dec, decide_eq_true (by rw [sumP3, sumP3, Ed.add_comm (p + q) r, Ed.add_comm p q, ← Ed.add_assoc])]; rfl) ?_
  refine vc_isAgg rfl rfl rfl ?_
  refine vc_isOne rfl ?_
  refine vc_call c_timesP (ds := [PV p, Value.agg #[U w9, U 0, U 0, U 0]]) (r := PV (Ed.smul w9 p)) (fun _ => rfl) rfl (⟨_, _, by omega, by rw [nums_one (by omega)], rfl⟩) ?_
  refine vc_isAgg rfl rfl rfl ?_
  refine vc_isOne rfl ?_
  refine vc_call c_timesP (ds := [PV p, Value.agg #[U y5, U 0, U 0, U 0]]) (r := PV (Ed.smul y5 p)) (fun _ => rfl) rfl (⟨_, _, by omega, by rw [nums_one (by omega)], rfl⟩) ?_
  refine vc_isAgg rfl rfl rfl ?_
  refine vc_isAgg rfl rfl rfl ?_
  refine vc_call c_addP (ds := [pts [(Ed.smul w9 p), (Ed.smul y5 p)]]) (r := PV (Ed.sumP [(Ed.smul w9 p), (Ed.smul y5 p)])) (fun _ => rfl) rfl (⟨_, (Nat.le_of_ble_eq_true rfl), rfl, rfl⟩) ?_
  refine vc_isAgg rfl rfl rfl ?_
  refine vc_add64 (x := w9) (y := y5) (by exact fun _ => rfl) (by exact fun _ => rfl) rfl fun w25 hw25 => ?_
  rw [Nat.mod_eq_of_lt (by omega)] at hw25
  refine vc_isOne rfl ?_
  refine vc_call c_timesP (ds := [PV p, Value.agg #[U w25, U 0, U 0, U 0]]) (r := PV (Ed.smul w25 p)) (fun _ => rfl) rfl (⟨_, _, by omega, by rw [nums_one (by omega)], rfl⟩) ?_
  refine vc_eqlN (m := 2) eqT28 (xs := [(Ed.sumP [(Ed.smul w9 p), (Ed.smul y5 p)]).x.val, (Ed.sumP [(Ed.smul w9 p), (Ed.smul y5 p)]).y.val]) (ys := [(Ed.smul w25 p).x.val, (Ed.smul w25 p).y.val]) (by exact fun _ => rfl) (by exact fun _ => rfl) rfl rfl (bnd2 (F_lt _) (F_lt _)) (bnd2 (F_lt _) (F_lt _)) rfl ?_
  refine vc_nil ?_
  refine JF.ret (by kernel_rfl) ?_
  refine hE.fin3 28 [Bo (decide ([(Ed.sumP [(Ed.smul w9 p), (Ed.smul y5 p)]).x.val, (Ed.sumP [(Ed.smul w9 p), (Ed.smul y5 p)]).y.val] = [(Ed.smul w25 p).x.val, (Ed.smul w25 p).y.val])), PV (Ed.smul w25 p), U w25, PV (Ed.sumP [(Ed.smul w9 p), (Ed.smul y5 p)]), PV (Ed.smul y5 p), PV (Ed.smul w9 p), Bo (!decide ([(Ed.sumP [p, q, r]).x.val, (Ed.sumP [p, q, r]).y.val] = [(Ed.sumP [r, q, p]).x.val, (Ed.sumP [r, q, p]).y.val])), PV (Ed.sumP [r, q, p]), PV (Ed.sumP [p, q, r]), Bo (!decide ([(Ed.sumP [(Ed.sumP [p, q]), r]).x.val, (Ed.sumP [(Ed.sumP [p, q]), r]).y.val] = [(Ed.sumP [p, (Ed.sumP [q, r])]).x.val, (Ed.sumP [p, (Ed.sumP [q, r])]).y.val])), PV (Ed.sumP [p, (Ed.sumP [q, r])]), PV (Ed.sumP [q, r]), PV (Ed.sumP [(Ed.sumP [p, q]), r]), PV (Ed.sumP [p, q]), Bo (!decide ([(Ed.sumP [p, q]).x.val, (Ed.sumP [p, q]).y.val] = [(Ed.sumP [q, p]).x.val, (Ed.sumP [q, p]).y.val])), PV (Ed.sumP [q, p]), PV (Ed.sumP [p, q]), U y5, U w9, U x5, PV r, PV q, PV p, Bo (!true), Bo true, bts [z0, z1, z2, z3, z4, z5, z6, z7, z8, z9, z10, z11, z12, z13, z14, z15, z16, z17, z18, z19, z20, z21, z22, z23, z24, z25, z26, z27, z28, z29, z30, z31], bts [y0, y1, y2, y3, y4, y5, y6, y7, y8, y9, y10, y11, y12, y13, y14, y15, y16, y17, y18, y19, y20, y21, y22, y23, y24, y25, y26, y27, y28, y29, y30, y31], bts [x0, x1, x2, x3, x4, x5, x6, x7, x8, x9, x10, x11, x12, x13, x14, x15, x16, x17, x18, x19, x20, x21, x22, x23, x24, x25, x26, x27, x28, x29, x30, x31]] rfl rfl (cm := []) (ds := [.v (.at (.one (.var 27)))]) (by kernel_rfl) rfl (.inr rfl) ?_
  refine vc_nil ?_
  show Bo (decide ([(Ed.sumP [(Ed.smul w9 p), (Ed.smul y5 p)]).x.val, (Ed.sumP [(Ed.smul w9 p), (Ed.smul y5 p)]).y.val] = [(Ed.smul w25 p).x.val, (Ed.smul w25 p).y.val])) = _
  rw [PV_dec, decide_eq_true (by rw [sumP2, hw25, Ed.smul_add])]

end Go.Proofs.Ytpeafegfjhljmaa

/-
  CurveOrders: sums do not hang on their order, nor on how they are put together; n and m times together are n + m times: for every input, without a condition.
-/
open Go Go.Sx Go.Proofs Go.ChangeShapes Go.WideShapes Go.ChangeAt
open Ed (F P inv pw Pt)
namespace Go.Proofs.Ytpeafegfjhljmaa
set_option maxRecDepth 100000
set_option maxHeartbeats 4000000
theorem own : ownKnob Try.prog.godebug = none := by kernel_rfl
theorem laidOut : laidOutB Try.prog = true := by kernel_rfl
theorem orders_lifted (os : Os) (started : os.Started) (H : Type) (enc : TypeId × Value → H) :
    ReturnsInHanded {} Try.checked os 7 .any (Rows.curveOrdersSpec.pre6 enc Try.prog Try.f7 Rows.curveOrdersRow.domain false) (Rows.curveOrdersSpec.post enc Try.prog Try.f7 false true false false) := by
  refine returnsInHanded_of_change (C := Try.checked) own started (by kernel_rfl) Try.func7
    (ChangeSpec.witness6 (enc := enc) (C := Try.checked) false ⟨#[], #[.agg (List.replicate 32 (.int .u8 0)).toArray, .agg (List.replicate 32 (.int .u8 0)).toArray, .agg (List.replicate 32 (.int .u8 0)).toArray], []⟩ 100 (by kernel_rfl) (by kernel_rfl) (by kernel_rfl) (by kernel_rfl)) ?_
  intro W base args ds gs before hval hW hcnd _
  have hlt := hW.lt
  have hW0 := hW
  obtain ⟨p, q, hA, hV, rfl, hfz, hnd⟩ := hW0
  obtain ⟨rfl, rfl⟩ := trodVars_none hV
  replace hA : DataW.TrodAll enc Try.prog W 0 (fun _ => true) true [44, 44, 44] args.toList ds p := by rw [show Try.f7.params.toList = [44, 44, 44] by kernel_rfl] at hA; exact hA
  obtain ⟨v0, v1, v2, d0, d1, d2, p0, p1, p2, rfl, rfl, rfl, h0, h1, h2⟩ := trodAll_three hA
  obtain ⟨l0, rfl, l0l, l0b⟩ := open_arrN (n := 32) (e := 5) (k := .u8) (by kernel_rfl) (by kernel_rfl) (by kernel_rfl) (by kernel_rfl) rfl (hval 0 44 v0 (by kernel_rfl) rfl) h0
  replace l0b : isB l0 := fun x hx => l0b x hx
  obtain ⟨l1, rfl, l1l, l1b⟩ := open_arrN (n := 32) (e := 5) (k := .u8) (by kernel_rfl) (by kernel_rfl) (by kernel_rfl) (by kernel_rfl) rfl (hval 1 44 v1 (by kernel_rfl) rfl) h1
  replace l1b : isB l1 := fun x hx => l1b x hx
  obtain ⟨l2, rfl, l2l, l2b⟩ := open_arrN (n := 32) (e := 5) (k := .u8) (by kernel_rfl) (by kernel_rfl) (by kernel_rfl) (by kernel_rfl) rfl (hval 2 44 v2 (by kernel_rfl) rfl) h2
  replace l2b : isB l2 := fun x hx => l2b x hx
  have hcall := calls_of_ctr (A := fun _ => True) c_orders Try.func7 (by kernel_rfl) (by kernel_rfl) (w := W) (vs := [_, _, _]) (ds := [bts l0, bts l1, bts l2]) (r := Bo true) trivial ⟨rfl, rfl, rfl, trivial⟩ ⟨l0, l1, l2, l0b, l0l, l1b, l1l, l2b, l2l, rfl, rfl⟩
  refine hcall.mono ?_
  rintro e W' ⟨v, rfl, hr, hb⟩
  obtain rfl : v = Bo true := hr
  exact ⟨_, rfl, (law_post laidOut (by kernel_rfl) rfl (tb := 4) (by kernel_rfl) (by kernel_rfl) hW hb rfl).1⟩
theorem orders_holds : Rows.CurveOrdersSaid :=
  OpenClaim.holds_of_wide 7 Try.f7 rfl rfl rfl rfl rfl rfl rfl ⟨rfl, rfl, rfl, rfl, rfl⟩ rfl rfl rfl rfl rfl (by kernel_rfl) Try.func7 (by kernel_rfl)
    (of_decide_eq_true (by kernel_rfl)) (by unfold Func.isWrapper; rw [if_neg (by decide +kernel)]; exact ⟨rfl, rfl⟩)
    (fun os started H enc _ => orders_lifted os started H enc)
end Go.Proofs.Ytpeafegfjhljmaa
