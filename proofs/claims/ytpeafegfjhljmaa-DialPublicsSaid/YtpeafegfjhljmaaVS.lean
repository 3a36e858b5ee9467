/- Contracts of the functions of residue and curve, second part. -/
import Derived.Test.YtpeafegfjhljmaaVR
import Derived.Test.YtpeafegfjhljmaaVP
/-
  Functions of the program: what each computes.
-/
open Go Go.Sx Go.Proofs
open Ed (F P inv pw Pt)
namespace Go.Proofs.Ytpeafegfjhljmaa
set_option maxRecDepth 100000
set_option maxHeartbeats 4000000
noncomputable def E_root_0 : Option Ran := ex1 (cfg 38) (fun n => if n = 4 then some false else if n = 6 then some false else if n = 8 then some true else none) 0 4000 30000 1 (inSt (v1t)) [.c (bodyOf Try.f19)] .nor
noncomputable def E_root_1 : Option Ran := ex1 (cfg 38) (fun n => if n = 4 then some false else if n = 6 then some false else if n = 8 then some false else none) 0 4000 50000 1 (inSt (v1t)) [.c (bodyOf Try.f19)] .nor
noncomputable def E_root_2 : Option Ran := ex1 (cfg 38) (fun n => if n = 4 then some true else if n = 8 then some false else if n = 10 then some true else none) 0 4000 70000 1 (inSt (v1t)) [.c (bodyOf Try.f19)] .nor
noncomputable def E_root_3 : Option Ran := ex1 (cfg 38) (fun n => if n = 4 then some true else if n = 8 then some false else if n = 10 then some false else none) 0 4000 90000 1 (inSt (v1t)) [.c (bodyOf Try.f19)] .nor
noncomputable def E_root_4 : Option Ran := ex1 (cfg 38) (fun n => if n = 4 then some true else if n = 8 then some true else none) 0 4000 110000 1 (inSt (v1t)) [.c (bodyOf Try.f19)] .nor
theorem c_root : Ctr Try.prog glb0 19 v1t ΦRoot := by
  refine ctr (C := cfg 38) mixed ti_ok Try.func19 (by kernel_rfl) ?_
  rintro ds r X Q hl ⟨x, hx, rfl, rfl⟩ hE
  obtain ⟨a, ha⟩ : ∃ a, a = ofN x := ⟨_, rfl⟩
  rw [← ha] at hE
  obtain ⟨c, hc⟩ : ∃ c, c = pw a ((P + 3) / 8) := ⟨_, rfl⟩
  obtain ⟨i, hi⟩ : ∃ i, i = Ed.im := ⟨_, rfl⟩
  by_cases h1 : c * c = a
  · have hr := root0_yes hc h1
    by_cases hp : c.val % 2 = 1
    · refine Jd.go2 (E := E_root_0) 1 [nums [x]] rfl rfl rfl [.isAgg 0 4, .isAgg 0 4, .call 53 ⟨none, [.one .v], .two (.one .v)⟩ [.one (.a (.var 0))] 1, .isAgg 1 4, .isAgg 1 4, .call 54 ⟨none, [.one .v, .one .v], .two (.one .v)⟩ [.one (.a (.var 1)), .agg [.a (.lit (.int .u64 18446744073709551614)), .a (.lit (.int .u64 18446744073709551615)), .a (.lit (.int .u64 18446744073709551615)), .a (.lit (.int .u64 1152921504606846975))]] 2, .isAgg 2 4, .isAgg 2 4, .isAgg 2 4, .call 55 ⟨none, [.one .v, .one .v], .two (.one .v)⟩ [.one (.a (.var 2)), .one (.a (.var 2))] 3, .isAgg 1 4, .bin .neq 26 (.at (.one (.var 3))) (.at (.one (.var 1))) 4, .isBool 4 false, .isAgg 2 4, .isAgg 2 4, .call 55 ⟨none, [.one .v, .one .v], .two (.one .v)⟩ [.one (.a (.var 2)), .one (.a (.var 2))] 5, .isAgg 1 4, .bin .neq 26 (.at (.one (.var 5))) (.at (.one (.var 1))) 6, .isBool 6 false, .bin .and 24 (.at (.one (.part 2 0 4))) (.at (.one (.lit (.int .u64 1)))) 7, .bin .eql 24 (.at (.one (.var 7))) (.at (.one (.lit (.int .u64 1)))) 8, .isBool 8 true, .isAgg 2 4, .call 21 ⟨none, [.one .v, .one .v], .two (.one .v)⟩ [.agg [.a (.lit (.int .u64 0)), .a (.lit (.int .u64 0)), .a (.lit (.int .u64 0)), .a (.lit (.int .u64 0))], .one (.a (.var 2))] 9, .isAgg 9 4, .isAgg 9 4, .isAgg 9 4] (by kernel_rfl) ?_
      refine vc_isAgg rfl rfl rfl ?_
      refine vc_isAgg rfl rfl rfl ?_
      refine vc_call c_small (ds := [nums [x]]) (r := fn [a]) (fun _ => rfl) rfl (⟨_, hx, rfl, by rw [ha]⟩) ?_
      refine vc_isAgg rfl rfl rfl ?_
      refine vc_isAgg rfl rfl rfl ?_
      refine vc_call c_powerF (ds := [fn [a], nums [7237005577332262213973186563042994240829374041602535252466099000494570602494]]) (r := fn [c]) (fun _ => rfl) rfl (⟨a, 7237005577332262213973186563042994240829374041602535252466099000494570602494, by decide, rfl, by rw [hc, show (P + 3) / 8 = 7237005577332262213973186563042994240829374041602535252466099000494570602494 by decide]⟩) ?_
      refine vc_isAgg rfl rfl rfl ?_
      refine vc_isAgg rfl rfl rfl ?_
      refine vc_isAgg rfl rfl rfl ?_
      refine vc_call c_mulF (ds := [fn [c], fn [c]]) (r := fn [c * c]) (fun _ => rfl) rfl (⟨_, _, rfl, rfl⟩) ?_
      refine vc_isAgg rfl rfl rfl ?_
      refine vc_neqN (m := 1) eqT26 (xs := [(c * c).val]) (ys := [a.val]) (fun _ => rfl) (fun _ => rfl) rfl rfl (bnd1 (F_lt _)) (bnd1 (F_lt _)) rfl ?_
      refine vc_isBool (by show Bo (!decide _) = _; rw [decide_eq_true (val_inj1.2 h1)]; rfl) ?_
      refine vc_isAgg rfl rfl rfl ?_
      refine vc_isAgg rfl rfl rfl ?_
      refine vc_call c_mulF (ds := [fn [c], fn [c]]) (r := fn [c * c]) (fun _ => rfl) rfl (⟨_, _, rfl, rfl⟩) ?_
      refine vc_isAgg rfl rfl rfl ?_
      refine vc_neqN (m := 1) eqT26 (xs := [(c * c).val]) (ys := [a.val]) (fun _ => rfl) (fun _ => rfl) rfl rfl (bnd1 (F_lt _)) (bnd1 (F_lt _)) rfl ?_
      refine vc_isBool (by show Bo (!decide _) = _; rw [decide_eq_true (val_inj1.2 h1)]; rfl) ?_
      refine vc_and64 (x := c.val % 18446744073709551616) (y := 1) (fun _ => rfl) (fun _ => rfl) rfl (Nat.mod_lt _ (by decide)) (by decide) fun v7 h7 => ?_
      rw [low_bit] at h7
      refine vc_eql64 (x := v7) (y := 1) (fun _ => rfl) (fun _ => rfl) rfl fun v8 h8 => ?_
      refine vc_isBool (by show Bo v8 = _; rw [h8, h7]; simp [Bo, hp]) ?_
      refine vc_isAgg rfl rfl rfl ?_
      refine vc_call c_SubF (ds := [fn [0], fn [c]]) (r := fn [0 - c]) (fun _ => rfl) rfl (⟨_, _, rfl, rfl⟩) ?_
      refine vc_isAgg rfl rfl rfl ?_
      refine vc_isAgg rfl rfl rfl ?_
      refine vc_isAgg rfl rfl rfl ?_
      refine vc_nil ?_
      refine JF.ret (by kernel_rfl) ?_
      refine hE.fin3 10 [fn [0 - c], Bo v8, U v7, Bo (!decide ([(c * c).val] = [a.val])), fn [c * c], Bo (!decide ([(c * c).val] = [a.val])), fn [c * c], fn [c], fn [a], nums [x]] rfl rfl (cm := [.isAgg 9 4]) (ds := [.v (.at (.one (.var 9))), .v (.at (.one (.lit (.bool true))))]) (by kernel_rfl) rfl (.inr rfl) ?_
      refine vc_isAgg rfl rfl rfl ?_
      refine vc_nil ?_
      show Value.tuple #[fn [0 - c], Bo true] = _
      rw [(root_odd hr h1 hp).1, (root_odd hr h1 hp).2]
    · refine Jd.go2 (E := E_root_1) 1 [nums [x]] rfl rfl rfl [.isAgg 0 4, .isAgg 0 4, .call 53 ⟨none, [.one .v], .two (.one .v)⟩ [.one (.a (.var 0))] 1, .isAgg 1 4, .isAgg 1 4, .call 54 ⟨none, [.one .v, .one .v], .two (.one .v)⟩ [.one (.a (.var 1)), .agg [.a (.lit (.int .u64 18446744073709551614)), .a (.lit (.int .u64 18446744073709551615)), .a (.lit (.int .u64 18446744073709551615)), .a (.lit (.int .u64 1152921504606846975))]] 2, .isAgg 2 4, .isAgg 2 4, .isAgg 2 4, .call 55 ⟨none, [.one .v, .one .v], .two (.one .v)⟩ [.one (.a (.var 2)), .one (.a (.var 2))] 3, .isAgg 1 4, .bin .neq 26 (.at (.one (.var 3))) (.at (.one (.var 1))) 4, .isBool 4 false, .isAgg 2 4, .isAgg 2 4, .call 55 ⟨none, [.one .v, .one .v], .two (.one .v)⟩ [.one (.a (.var 2)), .one (.a (.var 2))] 5, .isAgg 1 4, .bin .neq 26 (.at (.one (.var 5))) (.at (.one (.var 1))) 6, .isBool 6 false, .bin .and 24 (.at (.one (.part 2 0 4))) (.at (.one (.lit (.int .u64 1)))) 7, .bin .eql 24 (.at (.one (.var 7))) (.at (.one (.lit (.int .u64 1)))) 8, .isBool 8 false, .isAgg 2 4, .isAgg 2 4] (by kernel_rfl) ?_
      refine vc_isAgg rfl rfl rfl ?_
      refine vc_isAgg rfl rfl rfl ?_
      refine vc_call c_small (ds := [nums [x]]) (r := fn [a]) (fun _ => rfl) rfl (⟨_, hx, rfl, by rw [ha]⟩) ?_
      refine vc_isAgg rfl rfl rfl ?_
      refine vc_isAgg rfl rfl rfl ?_
      refine vc_call c_powerF (ds := [fn [a], nums [7237005577332262213973186563042994240829374041602535252466099000494570602494]]) (r := fn [c]) (fun _ => rfl) rfl (⟨a, 7237005577332262213973186563042994240829374041602535252466099000494570602494, by decide, rfl, by rw [hc, show (P + 3) / 8 = 7237005577332262213973186563042994240829374041602535252466099000494570602494 by decide]⟩) ?_
      refine vc_isAgg rfl rfl rfl ?_
      refine vc_isAgg rfl rfl rfl ?_
      refine vc_isAgg rfl rfl rfl ?_
      refine vc_call c_mulF (ds := [fn [c], fn [c]]) (r := fn [c * c]) (fun _ => rfl) rfl (⟨_, _, rfl, rfl⟩) ?_
      refine vc_isAgg rfl rfl rfl ?_
      refine vc_neqN (m := 1) eqT26 (xs := [(c * c).val]) (ys := [a.val]) (fun _ => rfl) (fun _ => rfl) rfl rfl (bnd1 (F_lt _)) (bnd1 (F_lt _)) rfl ?_
      refine vc_isBool (by show Bo (!decide _) = _; rw [decide_eq_true (val_inj1.2 h1)]; rfl) ?_
      refine vc_isAgg rfl rfl rfl ?_
      refine vc_isAgg rfl rfl rfl ?_
      refine vc_call c_mulF (ds := [fn [c], fn [c]]) (r := fn [c * c]) (fun _ => rfl) rfl (⟨_, _, rfl, rfl⟩) ?_
      refine vc_isAgg rfl rfl rfl ?_
      refine vc_neqN (m := 1) eqT26 (xs := [(c * c).val]) (ys := [a.val]) (fun _ => rfl) (fun _ => rfl) rfl rfl (bnd1 (F_lt _)) (bnd1 (F_lt _)) rfl ?_
      refine vc_isBool (by show Bo (!decide _) = _; rw [decide_eq_true (val_inj1.2 h1)]; rfl) ?_
      refine vc_and64 (x := c.val % 18446744073709551616) (y := 1) (fun _ => rfl) (fun _ => rfl) rfl (Nat.mod_lt _ (by decide)) (by decide) fun v7 h7 => ?_
      rw [low_bit] at h7
      refine vc_eql64 (x := v7) (y := 1) (fun _ => rfl) (fun _ => rfl) rfl fun v8 h8 => ?_
      refine vc_isBool (by show Bo v8 = _; rw [h8, h7]; simp [Bo]; omega) ?_
      refine vc_isAgg rfl rfl rfl ?_
      refine vc_isAgg rfl rfl rfl ?_
      refine vc_nil ?_
      refine JF.ret (by kernel_rfl) ?_
      refine hE.fin3 9 [Bo v8, U v7, Bo (!decide ([(c * c).val] = [a.val])), fn [c * c], Bo (!decide ([(c * c).val] = [a.val])), fn [c * c], fn [c], fn [a], nums [x]] rfl rfl (cm := [.isAgg 2 4]) (ds := [.v (.at (.one (.var 2))), .v (.at (.one (.lit (.bool true))))]) (by kernel_rfl) rfl (.inr rfl) ?_
      refine vc_isAgg rfl rfl rfl ?_
      refine vc_nil ?_
      show Value.tuple #[fn [c], Bo true] = _
      rw [(root_even hr h1 hp).1, (root_even hr h1 hp).2]
  · have hr := root0_no hc hi h1
    by_cases h2 : c * i * (c * i) = a
    · by_cases hp : (c * i).val % 2 = 1
      · refine Jd.go2 (E := E_root_2) 1 [nums [x]] rfl rfl rfl [.isAgg 0 4, .isAgg 0 4, .call 53 ⟨none, [.one .v], .two (.one .v)⟩ [.one (.a (.var 0))] 1, .isAgg 1 4, .isAgg 1 4, .call 54 ⟨none, [.one .v, .one .v], .two (.one .v)⟩ [.one (.a (.var 1)), .agg [.a (.lit (.int .u64 18446744073709551614)), .a (.lit (.int .u64 18446744073709551615)), .a (.lit (.int .u64 18446744073709551615)), .a (.lit (.int .u64 1152921504606846975))]] 2, .isAgg 2 4, .isAgg 2 4, .isAgg 2 4, .call 55 ⟨none, [.one .v, .one .v], .two (.one .v)⟩ [.one (.a (.var 2)), .one (.a (.var 2))] 3, .isAgg 1 4, .bin .neq 26 (.at (.one (.var 3))) (.at (.one (.var 1))) 4, .isBool 4 true, .isAgg 2 4, .call 54 ⟨none, [.one .v, .one .v], .two (.one .v)⟩ [.agg [.a (.lit (.int .u64 2)), .a (.lit (.int .u64 0)), .a (.lit (.int .u64 0)), .a (.lit (.int .u64 0))], .agg [.a (.lit (.int .u64 18446744073709551611)), .a (.lit (.int .u64 18446744073709551615)), .a (.lit (.int .u64 18446744073709551615)), .a (.lit (.int .u64 2305843009213693951))]] 5, .call 55 ⟨none, [.one .v, .one .v], .two (.one .v)⟩ [.one (.a (.var 2)), .one (.a (.var 5))] 6, .isAgg 6 4, .isAgg 6 4, .isAgg 6 4, .call 55 ⟨none, [.one .v, .one .v], .two (.one .v)⟩ [.one (.a (.var 6)), .one (.a (.var 6))] 7, .isAgg 1 4, .bin .neq 26 (.at (.one (.var 7))) (.at (.one (.var 1))) 8, .isBool 8 false, .bin .and 24 (.at (.one (.part 6 0 4))) (.at (.one (.lit (.int .u64 1)))) 9, .bin .eql 24 (.at (.one (.var 9))) (.at (.one (.lit (.int .u64 1)))) 10, .isBool 10 true, .isAgg 6 4, .call 21 ⟨none, [.one .v, .one .v], .two (.one .v)⟩ [.agg [.a (.lit (.int .u64 0)), .a (.lit (.int .u64 0)), .a (.lit (.int .u64 0)), .a (.lit (.int .u64 0))], .one (.a (.var 6))] 11, .isAgg 11 4, .isAgg 11 4, .isAgg 11 4] (by kernel_rfl) ?_
        refine vc_isAgg rfl rfl rfl ?_
        refine vc_isAgg rfl rfl rfl ?_
        refine vc_call c_small (ds := [nums [x]]) (r := fn [a]) (fun _ => rfl) rfl (⟨_, hx, rfl, by rw [ha]⟩) ?_
        refine vc_isAgg rfl rfl rfl ?_
        refine vc_isAgg rfl rfl rfl ?_
        refine vc_call c_powerF (ds := [fn [a], nums [7237005577332262213973186563042994240829374041602535252466099000494570602494]]) (r := fn [c]) (fun _ => rfl) rfl (⟨a, 7237005577332262213973186563042994240829374041602535252466099000494570602494, by decide, rfl, by rw [hc, show (P + 3) / 8 = 7237005577332262213973186563042994240829374041602535252466099000494570602494 by decide]⟩) ?_
        refine vc_isAgg rfl rfl rfl ?_
        refine vc_isAgg rfl rfl rfl ?_
        refine vc_isAgg rfl rfl rfl ?_
        refine vc_call c_mulF (ds := [fn [c], fn [c]]) (r := fn [c * c]) (fun _ => rfl) rfl (⟨_, _, rfl, rfl⟩) ?_
        refine vc_isAgg rfl rfl rfl ?_
        refine vc_neqN (m := 1) eqT26 (xs := [(c * c).val]) (ys := [a.val]) (fun _ => rfl) (fun _ => rfl) rfl rfl (bnd1 (F_lt _)) (bnd1 (F_lt _)) rfl ?_
        refine vc_isBool (by show Bo (!decide _) = _; rw [decide_eq_false (fun h => h1 (val_inj1.1 h))]; rfl) ?_
        refine vc_isAgg rfl rfl rfl ?_
        refine vc_call c_powerF (ds := [fn [2], nums [14474011154664524427946373126085988481658748083205070504932198000989141204987]]) (r := fn [i]) (fun _ => rfl) rfl (⟨2, 14474011154664524427946373126085988481658748083205070504932198000989141204987, by decide, rfl, by rw [hi]; unfold Ed.im; rw [show (P - 1) / 4 = 14474011154664524427946373126085988481658748083205070504932198000989141204987 by decide]⟩) ?_
        refine vc_call c_mulF (ds := [fn [c], fn [i]]) (r := fn [c * i]) (fun _ => rfl) rfl (⟨_, _, rfl, rfl⟩) ?_
        refine vc_isAgg rfl rfl rfl ?_
        refine vc_isAgg rfl rfl rfl ?_
        refine vc_isAgg rfl rfl rfl ?_
        refine vc_call c_mulF (ds := [fn [c * i], fn [c * i]]) (r := fn [(c * i) * (c * i)]) (fun _ => rfl) rfl (⟨_, _, rfl, rfl⟩) ?_
        refine vc_isAgg rfl rfl rfl ?_
        refine vc_neqN (m := 1) eqT26 (xs := [((c * i) * (c * i)).val]) (ys := [a.val]) (fun _ => rfl) (fun _ => rfl) rfl rfl (bnd1 (F_lt _)) (bnd1 (F_lt _)) rfl ?_
        refine vc_isBool (by show Bo (!decide _) = _; rw [decide_eq_true (val_inj1.2 h2)]; rfl) ?_
        refine vc_and64 (x := ((c * i).val) % 18446744073709551616) (y := 1) (fun _ => rfl) (fun _ => rfl) rfl (Nat.mod_lt _ (by decide)) (by decide) fun v9 h9 => ?_
        rw [low_bit] at h9
        refine vc_eql64 (x := v9) (y := 1) (fun _ => rfl) (fun _ => rfl) rfl fun v10 h10 => ?_
        refine vc_isBool (by show Bo v10 = _; rw [h10, h9]; simp [Bo, hp]) ?_
        refine vc_isAgg rfl rfl rfl ?_
        refine vc_call c_SubF (ds := [fn [0], fn [c * i]]) (r := fn [0 - (c * i)]) (fun _ => rfl) rfl (⟨_, _, rfl, rfl⟩) ?_
        refine vc_isAgg rfl rfl rfl ?_
        refine vc_isAgg rfl rfl rfl ?_
        refine vc_isAgg rfl rfl rfl ?_
        refine vc_nil ?_
        refine JF.ret (by kernel_rfl) ?_
        refine hE.fin3 12 [fn [0 - (c * i)], Bo v10, U v9, Bo (!decide ([((c * i) * (c * i)).val] = [a.val])), fn [(c * i) * (c * i)], fn [c * i], fn [i], Bo (!decide ([(c * c).val] = [a.val])), fn [c * c], fn [c], fn [a], nums [x]] rfl rfl (cm := [.isAgg 11 4]) (ds := [.v (.at (.one (.var 11))), .v (.at (.one (.lit (.bool true))))]) (by kernel_rfl) rfl (.inr rfl) ?_
        refine vc_isAgg rfl rfl rfl ?_
        refine vc_nil ?_
        show Value.tuple #[fn [0 - (c * i)], Bo true] = _
        rw [(root_odd hr h2 hp).1, (root_odd hr h2 hp).2]
      · refine Jd.go2 (E := E_root_3) 1 [nums [x]] rfl rfl rfl [.isAgg 0 4, .isAgg 0 4, .call 53 ⟨none, [.one .v], .two (.one .v)⟩ [.one (.a (.var 0))] 1, .isAgg 1 4, .isAgg 1 4, .call 54 ⟨none, [.one .v, .one .v], .two (.one .v)⟩ [.one (.a (.var 1)), .agg [.a (.lit (.int .u64 18446744073709551614)), .a (.lit (.int .u64 18446744073709551615)), .a (.lit (.int .u64 18446744073709551615)), .a (.lit (.int .u64 1152921504606846975))]] 2, .isAgg 2 4, .isAgg 2 4, .isAgg 2 4, .call 55 ⟨none, [.one .v, .one .v], .two (.one .v)⟩ [.one (.a (.var 2)), .one (.a (.var 2))] 3, .isAgg 1 4, .bin .neq 26 (.at (.one (.var 3))) (.at (.one (.var 1))) 4, .isBool 4 true, .isAgg 2 4, .call 54 ⟨none, [.one .v, .one .v], .two (.one .v)⟩ [.agg [.a (.lit (.int .u64 2)), .a (.lit (.int .u64 0)), .a (.lit (.int .u64 0)), .a (.lit (.int .u64 0))], .agg [.a (.lit (.int .u64 18446744073709551611)), .a (.lit (.int .u64 18446744073709551615)), .a (.lit (.int .u64 18446744073709551615)), .a (.lit (.int .u64 2305843009213693951))]] 5, .call 55 ⟨none, [.one .v, .one .v], .two (.one .v)⟩ [.one (.a (.var 2)), .one (.a (.var 5))] 6, .isAgg 6 4, .isAgg 6 4, .isAgg 6 4, .call 55 ⟨none, [.one .v, .one .v], .two (.one .v)⟩ [.one (.a (.var 6)), .one (.a (.var 6))] 7, .isAgg 1 4, .bin .neq 26 (.at (.one (.var 7))) (.at (.one (.var 1))) 8, .isBool 8 false, .bin .and 24 (.at (.one (.part 6 0 4))) (.at (.one (.lit (.int .u64 1)))) 9, .bin .eql 24 (.at (.one (.var 9))) (.at (.one (.lit (.int .u64 1)))) 10, .isBool 10 false, .isAgg 6 4, .isAgg 6 4] (by kernel_rfl) ?_
        refine vc_isAgg rfl rfl rfl ?_
        refine vc_isAgg rfl rfl rfl ?_
        refine vc_call c_small (ds := [nums [x]]) (r := fn [a]) (fun _ => rfl) rfl (⟨_, hx, rfl, by rw [ha]⟩) ?_
        refine vc_isAgg rfl rfl rfl ?_
        refine vc_isAgg rfl rfl rfl ?_
        refine vc_call c_powerF (ds := [fn [a], nums [7237005577332262213973186563042994240829374041602535252466099000494570602494]]) (r := fn [c]) (fun _ => rfl) rfl (⟨a, 7237005577332262213973186563042994240829374041602535252466099000494570602494, by decide, rfl, by rw [hc, show (P + 3) / 8 = 7237005577332262213973186563042994240829374041602535252466099000494570602494 by decide]⟩) ?_
        refine vc_isAgg rfl rfl rfl ?_
        refine vc_isAgg rfl rfl rfl ?_
        refine vc_isAgg rfl rfl rfl ?_
        refine vc_call c_mulF (ds := [fn [c], fn [c]]) (r := fn [c * c]) (fun _ => rfl) rfl (⟨_, _, rfl, rfl⟩) ?_
        refine vc_isAgg rfl rfl rfl ?_
        refine vc_neqN (m := 1) eqT26 (xs := [(c * c).val]) (ys := [a.val]) (fun _ => rfl) (fun _ => rfl) rfl rfl (bnd1 (F_lt _)) (bnd1 (F_lt _)) rfl ?_
        refine vc_isBool (by show Bo (!decide _) = _; rw [decide_eq_false (fun h => h1 (val_inj1.1 h))]; rfl) ?_
        refine vc_isAgg rfl rfl rfl ?_
        refine vc_call c_powerF (ds := [fn [2], nums [14474011154664524427946373126085988481658748083205070504932198000989141204987]]) (r := fn [i]) (fun _ => rfl) rfl (⟨2, 14474011154664524427946373126085988481658748083205070504932198000989141204987, by decide, rfl, by rw [hi]; unfold Ed.im; rw [show (P - 1) / 4 = 14474011154664524427946373126085988481658748083205070504932198000989141204987 by decide]⟩) ?_
        refine vc_call c_mulF (ds := [fn [c], fn [i]]) (r := fn [c * i]) (fun _ => rfl) rfl (⟨_, _, rfl, rfl⟩) ?_
        refine vc_isAgg rfl rfl rfl ?_
        refine vc_isAgg rfl rfl rfl ?_
        refine vc_isAgg rfl rfl rfl ?_
        refine vc_call c_mulF (ds := [fn [c * i], fn [c * i]]) (r := fn [(c * i) * (c * i)]) (fun _ => rfl) rfl (⟨_, _, rfl, rfl⟩) ?_
        refine vc_isAgg rfl rfl rfl ?_
        refine vc_neqN (m := 1) eqT26 (xs := [((c * i) * (c * i)).val]) (ys := [a.val]) (fun _ => rfl) (fun _ => rfl) rfl rfl (bnd1 (F_lt _)) (bnd1 (F_lt _)) rfl ?_
        refine vc_isBool (by show Bo (!decide _) = _; rw [decide_eq_true (val_inj1.2 h2)]; rfl) ?_
        refine vc_and64 (x := ((c * i).val) % 18446744073709551616) (y := 1) (fun _ => rfl) (fun _ => rfl) rfl (Nat.mod_lt _ (by decide)) (by decide) fun v9 h9 => ?_
        rw [low_bit] at h9
        refine vc_eql64 (x := v9) (y := 1) (fun _ => rfl) (fun _ => rfl) rfl fun v10 h10 => ?_
        refine vc_isBool (by show Bo v10 = _; rw [h10, h9]; simp [Bo]; omega) ?_
        refine vc_isAgg rfl rfl rfl ?_
        refine vc_isAgg rfl rfl rfl ?_
        refine vc_nil ?_
        refine JF.ret (by kernel_rfl) ?_
        refine hE.fin3 11 [Bo v10, U v9, Bo (!decide ([((c * i) * (c * i)).val] = [a.val])), fn [(c * i) * (c * i)], fn [c * i], fn [i], Bo (!decide ([(c * c).val] = [a.val])), fn [c * c], fn [c], fn [a], nums [x]] rfl rfl (cm := [.isAgg 6 4]) (ds := [.v (.at (.one (.var 6))), .v (.at (.one (.lit (.bool true))))]) (by kernel_rfl) rfl (.inr rfl) ?_
        refine vc_isAgg rfl rfl rfl ?_
        refine vc_nil ?_
        show Value.tuple #[fn [c * i], Bo true] = _
        rw [(root_even hr h2 hp).1, (root_even hr h2 hp).2]
    · refine Jd.go2 (E := E_root_4) 1 [nums [x]] rfl rfl rfl [.isAgg 0 4, .isAgg 0 4, .call 53 ⟨none, [.one .v], .two (.one .v)⟩ [.one (.a (.var 0))] 1, .isAgg 1 4, .isAgg 1 4, .call 54 ⟨none, [.one .v, .one .v], .two (.one .v)⟩ [.one (.a (.var 1)), .agg [.a (.lit (.int .u64 18446744073709551614)), .a (.lit (.int .u64 18446744073709551615)), .a (.lit (.int .u64 18446744073709551615)), .a (.lit (.int .u64 1152921504606846975))]] 2, .isAgg 2 4, .isAgg 2 4, .isAgg 2 4, .call 55 ⟨none, [.one .v, .one .v], .two (.one .v)⟩ [.one (.a (.var 2)), .one (.a (.var 2))] 3, .isAgg 1 4, .bin .neq 26 (.at (.one (.var 3))) (.at (.one (.var 1))) 4, .isBool 4 true, .isAgg 2 4, .call 54 ⟨none, [.one .v, .one .v], .two (.one .v)⟩ [.agg [.a (.lit (.int .u64 2)), .a (.lit (.int .u64 0)), .a (.lit (.int .u64 0)), .a (.lit (.int .u64 0))], .agg [.a (.lit (.int .u64 18446744073709551611)), .a (.lit (.int .u64 18446744073709551615)), .a (.lit (.int .u64 18446744073709551615)), .a (.lit (.int .u64 2305843009213693951))]] 5, .call 55 ⟨none, [.one .v, .one .v], .two (.one .v)⟩ [.one (.a (.var 2)), .one (.a (.var 5))] 6, .isAgg 6 4, .isAgg 6 4, .isAgg 6 4, .call 55 ⟨none, [.one .v, .one .v], .two (.one .v)⟩ [.one (.a (.var 6)), .one (.a (.var 6))] 7, .isAgg 1 4, .bin .neq 26 (.at (.one (.var 7))) (.at (.one (.var 1))) 8, .isBool 8 true] (by kernel_rfl) ?_
      refine vc_isAgg rfl rfl rfl ?_
      refine vc_isAgg rfl rfl rfl ?_
      refine vc_call c_small (ds := [nums [x]]) (r := fn [a]) (fun _ => rfl) rfl (⟨_, hx, rfl, by rw [ha]⟩) ?_
      refine vc_isAgg rfl rfl rfl ?_
      refine vc_isAgg rfl rfl rfl ?_
      refine vc_call c_powerF (ds := [fn [a], nums [7237005577332262213973186563042994240829374041602535252466099000494570602494]]) (r := fn [c]) (fun _ => rfl) rfl (⟨a, 7237005577332262213973186563042994240829374041602535252466099000494570602494, by decide, rfl, by rw [hc, show (P + 3) / 8 = 7237005577332262213973186563042994240829374041602535252466099000494570602494 by decide]⟩) ?_
      refine vc_isAgg rfl rfl rfl ?_
      refine vc_isAgg rfl rfl rfl ?_
      refine vc_isAgg rfl rfl rfl ?_
      refine vc_call c_mulF (ds := [fn [c], fn [c]]) (r := fn [c * c]) (fun _ => rfl) rfl (⟨_, _, rfl, rfl⟩) ?_
      refine vc_isAgg rfl rfl rfl ?_
      refine vc_neqN (m := 1) eqT26 (xs := [(c * c).val]) (ys := [a.val]) (fun _ => rfl) (fun _ => rfl) rfl rfl (bnd1 (F_lt _)) (bnd1 (F_lt _)) rfl ?_
      refine vc_isBool (by show Bo (!decide _) = _; rw [decide_eq_false (fun h => h1 (val_inj1.1 h))]; rfl) ?_
      refine vc_isAgg rfl rfl rfl ?_
      refine vc_call c_powerF (ds := [fn [2], nums [14474011154664524427946373126085988481658748083205070504932198000989141204987]]) (r := fn [i]) (fun _ => rfl) rfl (⟨2, 14474011154664524427946373126085988481658748083205070504932198000989141204987, by decide, rfl, by rw [hi]; unfold Ed.im; rw [show (P - 1) / 4 = 14474011154664524427946373126085988481658748083205070504932198000989141204987 by decide]⟩) ?_
      refine vc_call c_mulF (ds := [fn [c], fn [i]]) (r := fn [c * i]) (fun _ => rfl) rfl (⟨_, _, rfl, rfl⟩) ?_
      refine vc_isAgg rfl rfl rfl ?_
      refine vc_isAgg rfl rfl rfl ?_
      refine vc_isAgg rfl rfl rfl ?_
      refine vc_call c_mulF (ds := [fn [c * i], fn [c * i]]) (r := fn [(c * i) * (c * i)]) (fun _ => rfl) rfl (⟨_, _, rfl, rfl⟩) ?_
      refine vc_isAgg rfl rfl rfl ?_
      refine vc_neqN (m := 1) eqT26 (xs := [((c * i) * (c * i)).val]) (ys := [a.val]) (fun _ => rfl) (fun _ => rfl) rfl rfl (bnd1 (F_lt _)) (bnd1 (F_lt _)) rfl ?_
      refine vc_isBool (by show Bo (!decide _) = _; rw [decide_eq_false (fun h => h2 (val_inj1.1 h))]; rfl) ?_
      refine vc_nil ?_
      refine JF.ret (by kernel_rfl) ?_
      refine hE.fin3 9 [Bo (!decide ([((c * i) * (c * i)).val] = [a.val])), fn [(c * i) * (c * i)], fn [c * i], fn [i], Bo (!decide ([(c * c).val] = [a.val])), fn [c * c], fn [c], fn [a], nums [x]] rfl rfl (cm := []) (ds := [.v (.at (.agg [.lit (.int .u64 0), .lit (.int .u64 0), .lit (.int .u64 0), .lit (.int .u64 0)])), .v (.at (.one (.lit (.bool false))))]) (by kernel_rfl) rfl (.inr rfl) ?_
      refine vc_nil ?_
      show Value.tuple #[nums [0], Bo false] = _
      rw [(root_none hr h2).1, (root_none hr h2).2]; rfl

theorem c_rootF : Ctr Try.prog glb0 19 v1t ΦRootF := c_root.imp fun _ _ ⟨x, h1, h2⟩ => ⟨x.val, F_lt x, h1, by rw [h2, ofN_val]⟩
end Go.Proofs.Ytpeafegfjhljmaa

/-
  Functions of the program: what each computes.
-/
open Go Go.Sx Go.Proofs
open Ed (F P inv pw Pt)
namespace Go.Proofs.Ytpeafegfjhljmaa
set_option maxRecDepth 100000
set_option maxHeartbeats 4000000
noncomputable def E_one_0 : Option Ran := ex1 (cfg 2) (fun _ => none) 0 4000 30000 0 (inSt (v0)) [.c (bodyOf Try.f50)] .nor
theorem c_one : Ctr Try.prog glb0 50 v0 (Φ0 (fn [1])) := by
  refine ctr (C := cfg 2) mixed ti_ok Try.func50 (by kernel_rfl) ?_
  rintro ds r X Q hl ⟨rfl, rfl⟩ hE
  refine Jd.go2 (E := E_one_0) 0 [] rfl rfl rfl [] (by kernel_rfl) ?_
  refine vc_nil ?_
  refine JF.ret (by kernel_rfl) ?_
  refine hE.fin3 0 [] rfl rfl (cm := []) (ds := [.v (.at (.agg [.lit (.int .u64 1), .lit (.int .u64 0), .lit (.int .u64 0), .lit (.int .u64 0)]))]) (by kernel_rfl) rfl (.inr rfl) ?_
  refine vc_nil ?_
  show nums [1] = _
  kernel_rfl

noncomputable def E_factor_0 : Option Ran := ex1 (cfg 8) (fun _ => none) 0 4000 30000 0 (inSt (v0)) [.c (bodyOf Try.f51)] .nor
theorem c_factor : Ctr Try.prog glb0 51 v0 (Φ0 (fn [Ed.d])) := by
  refine ctr (C := cfg 8) mixed ti_ok Try.func51 (by kernel_rfl) ?_
  rintro ds r X Q hl ⟨rfl, rfl⟩ hE
  refine Jd.go2 (E := E_factor_0) 0 [] rfl rfl rfl [.call 21 ⟨none, [.one .v, .one .v], .two (.one .v)⟩ [.agg [.a (.lit (.int .u64 0)), .a (.lit (.int .u64 0)), .a (.lit (.int .u64 0)), .a (.lit (.int .u64 0))], .agg [.a (.lit (.int .u64 121665)), .a (.lit (.int .u64 0)), .a (.lit (.int .u64 0)), .a (.lit (.int .u64 0))]] 0, .call 22 ⟨none, [.one .v], .two (.one .v)⟩ [.agg [.a (.lit (.int .u64 121666)), .a (.lit (.int .u64 0)), .a (.lit (.int .u64 0)), .a (.lit (.int .u64 0))]] 1, .isAgg 0 4, .isAgg 1 4, .call 20 ⟨none, [.one (.sv 4)], .two (.one .v)⟩ [.one (.rc (.lst [.part 0 0 4, .part 0 1 4, .part 0 2 4, .part 0 3 4, .part 1 0 4, .part 1 1 4, .part 1 2 4, .part 1 3 4]))] 2, .isAgg 2 4] (by kernel_rfl) ?_
  refine vc_call c_SubF (ds := [fn [0], fn [121665]]) (r := fn [0 - 121665]) (fun _ => rfl) rfl (⟨_, _, rfl, rfl⟩) ?_
  refine vc_call c_invF (ds := [fn [121666]]) (r := fn [inv 121666]) (fun _ => rfl) rfl (⟨_, rfl, rfl⟩) ?_
  refine vc_isAgg rfl rfl rfl ?_
  refine vc_isAgg rfl rfl rfl ?_
  refine vc_call c_MulF (ds := [fn [0 - 121665, inv 121666]]) (r := fn [prodF [0 - 121665, inv 121666]]) (fun _ => rfl) rfl (⟨_, (Nat.le_of_ble_eq_true rfl), rfl, rfl⟩) ?_
  refine vc_isAgg rfl rfl rfl ?_
  refine vc_nil ?_
  refine JF.ret (by kernel_rfl) ?_
  refine hE.fin3 3 [fn [prodF [0 - 121665, inv 121666]], fn [inv 121666], fn [0 - 121665]] rfl rfl (cm := [.isAgg 2 4]) (ds := [.v (.at (.one (.var 2)))]) (by kernel_rfl) rfl (.inr rfl) ?_
  refine vc_isAgg rfl rfl rfl ?_
  refine vc_nil ?_
  show fn [prodF [0 - 121665, inv 121666]] = _
  rw [prod2, factor_eq]

noncomputable def E_naught_0 : Option Ran := ex1 (cfg 4) (fun _ => none) 0 4000 30000 0 (inSt (v0)) [.c (bodyOf Try.f36)] .nor
theorem c_naught : Ctr Try.prog glb0 36 v0 (Φ0 (PV 0)) := by
  refine ctr (C := cfg 4) mixed ti_ok Try.func36 (by kernel_rfl) ?_
  rintro ds r X Q hl ⟨rfl, rfl⟩ hE
  refine Jd.go2 (E := E_naught_0) 0 [] rfl rfl rfl [.call 50 ⟨none, [], .two (.one .v)⟩ [] 0, .isAgg 0 4] (by kernel_rfl) ?_
  refine vc_call c_one (ds := []) (r := fn [1]) (fun _ => rfl) rfl (⟨rfl, rfl⟩) ?_
  refine vc_isAgg rfl rfl rfl ?_
  refine vc_nil ?_
  refine JF.ret (by kernel_rfl) ?_
  refine hE.fin3 1 [fn [1]] rfl rfl (cm := []) (ds := [.v (.at (.agg [.lit (.int .u64 0), .lit (.int .u64 0), .lit (.int .u64 0), .lit (.int .u64 0), .part 0 0 4, .part 0 1 4, .part 0 2 4, .part 0 3 4]))]) (by kernel_rfl) rfl (.inr rfl) ?_
  refine vc_nil ?_
  show fn [0, 1] = _
  kernel_rfl

noncomputable def E_open_0 : Option Ran := ex1 (cfg 6) (fun _ => none) 0 4000 30000 0 (inSt (v0)) [.c (bodyOf Try.f58)] .nor
theorem c_open : Ctr Try.prog glb0 58 v0 (Φ0 (fn [Ed.d + Ed.d])) := by
  refine ctr (C := cfg 6) mixed ti_ok Try.func58 (by kernel_rfl) ?_
  rintro ds r X Q hl ⟨rfl, rfl⟩ hE
  refine Jd.go2 (E := E_open_0) 0 [] rfl rfl rfl [.call 51 ⟨none, [], .two (.one .v)⟩ [] 0, .call 51 ⟨none, [], .two (.one .v)⟩ [] 1, .isAgg 0 4, .isAgg 1 4, .call 23 ⟨none, [.one (.sv 4)], .two (.one .v)⟩ [.one (.rc (.lst [.part 0 0 4, .part 0 1 4, .part 0 2 4, .part 0 3 4, .part 1 0 4, .part 1 1 4, .part 1 2 4, .part 1 3 4]))] 2, .isAgg 2 4, .isAgg 2 4, .isAgg 2 4] (by kernel_rfl) ?_
  refine vc_call c_factor (ds := []) (r := fn [Ed.d]) (fun _ => rfl) rfl (⟨rfl, rfl⟩) ?_
  refine vc_call c_factor (ds := []) (r := fn [Ed.d]) (fun _ => rfl) rfl (⟨rfl, rfl⟩) ?_
  refine vc_isAgg rfl rfl rfl ?_
  refine vc_isAgg rfl rfl rfl ?_
  refine vc_call c_AddF (ds := [fn [Ed.d, Ed.d]]) (r := fn [sumF [Ed.d, Ed.d]]) (fun _ => rfl) rfl (⟨_, (Nat.le_of_ble_eq_true rfl), rfl, rfl⟩) ?_
  refine vc_isAgg rfl rfl rfl ?_
  refine vc_isAgg rfl rfl rfl ?_
  refine vc_isAgg rfl rfl rfl ?_
  refine vc_nil ?_
  refine JF.ret (by kernel_rfl) ?_
  refine hE.fin3 3 [fn [sumF [Ed.d, Ed.d]], fn [Ed.d], fn [Ed.d]] rfl rfl (cm := [.isAgg 2 4]) (ds := [.v (.at (.one (.var 2)))]) (by kernel_rfl) rfl (.inr rfl) ?_
  refine vc_isAgg rfl rfl rfl ?_
  refine vc_nil ?_
  show fn [sumF [Ed.d, Ed.d]] = _
  rw [sum2]

noncomputable def E_far_0 : Option Ran := ex1 (cfg 12) (fun _ => none) 0 4000 30000 1 (inSt (v1v)) [.c (bodyOf Try.f59)] .nor
theorem c_far : Ctr Try.prog glb0 59 v1v Φfar := by
  refine ctr (C := cfg 12) mixed ti_ok Try.func59 (by kernel_rfl) ?_
  rintro ds r X Q hl ⟨p, rfl, rfl⟩ hE
  refine Jd.go2 (E := E_far_0) 1 [PV p] rfl rfl rfl [.isAgg 0 8, .isAgg 0 8, .call 50 ⟨none, [], .two (.one .v)⟩ [] 1, .call 20 ⟨none, [.one (.sv 4)], .two (.one .v)⟩ [.one (.rc (.lst [.part 0 0 8, .part 0 1 8, .part 0 2 8, .part 0 3 8, .part 0 4 8, .part 0 5 8, .part 0 6 8, .part 0 7 8]))] 2, .isAgg 0 8, .isAgg 1 4, .isAgg 2 4] (by kernel_rfl) ?_
  refine vc_isAgg rfl rfl rfl ?_
  refine vc_isAgg rfl rfl rfl ?_
  refine vc_call c_one (ds := []) (r := fn [1]) (fun _ => rfl) rfl (⟨rfl, rfl⟩) ?_
  refine vc_call c_MulF (ds := [fn [p.x, p.y]]) (r := fn [prodF [p.x, p.y]]) (fun _ => rfl) rfl (⟨_, (Nat.le_of_ble_eq_true rfl), rfl, rfl⟩) ?_
  refine vc_isAgg rfl rfl rfl ?_
  refine vc_isAgg rfl rfl rfl ?_
  refine vc_isAgg rfl rfl rfl ?_
  refine vc_nil ?_
  refine JF.ret (by kernel_rfl) ?_
  refine hE.fin3 3 [fn [prodF [p.x, p.y]], fn [1], PV p] rfl rfl (cm := []) (ds := [.v (.at (.agg [.part 0 0 8, .part 0 1 8, .part 0 2 8, .part 0 3 8, .part 0 4 8, .part 0 5 8, .part 0 6 8, .part 0 7 8, .part 1 0 4, .part 1 1 4, .part 1 2 4, .part 1 3 4, .part 2 0 4, .part 2 1 4, .part 2 2 4, .part 2 3 4]))]) (by kernel_rfl) rfl (.inr rfl) ?_
  refine vc_nil ?_
  show fn [p.x, p.y, 1, prodF [p.x, p.y]] = _
  rw [prod2]

noncomputable def E_adder_0 : Option Ran := ex1 (cfg 96) (fun _ => none) 0 4000 30000 3 (inSt (v3v)) [.c (bodyOf Try.f60)] .nor
theorem c_adder : Ctr Try.prog glb0 60 v3v ΦaddP := by
  refine ctr (C := cfg 96) mixed ti_ok Try.func60 (by kernel_rfl) ?_
  rintro ds r X Q hl ⟨x1, y1, z1, t1, x2, y2, z2, t2, rfl, rfl⟩ hE
  refine Jd.go2 (E := E_adder_0) 3 [fn [x2, y2, z2, t2], fn [x1, y1, z1, t1], fn [Ed.d + Ed.d]] rfl rfl rfl [.isAgg 0 4, .isAgg 1 16, .isAgg 2 16, .call 21 ⟨none, [.one .v, .one .v], .two (.one .v)⟩ [.agg [.a (.part 1 4 16), .a (.part 1 5 16), .a (.part 1 6 16), .a (.part 1 7 16)], .agg [.a (.part 1 0 16), .a (.part 1 1 16), .a (.part 1 2 16), .a (.part 1 3 16)]] 3, .call 21 ⟨none, [.one .v, .one .v], .two (.one .v)⟩ [.agg [.a (.part 2 4 16), .a (.part 2 5 16), .a (.part 2 6 16), .a (.part 2 7 16)], .agg [.a (.part 2 0 16), .a (.part 2 1 16), .a (.part 2 2 16), .a (.part 2 3 16)]] 4, .isAgg 3 4, .isAgg 4 4, .call 20 ⟨none, [.one (.sv 4)], .two (.one .v)⟩ [.one (.rc (.lst [.part 3 0 4, .part 3 1 4, .part 3 2 4, .part 3 3 4, .part 4 0 4, .part 4 1 4, .part 4 2 4, .part 4 3 4]))] 5, .isAgg 5 4, .call 23 ⟨none, [.one (.sv 4)], .two (.one .v)⟩ [.one (.rc (.lst [.part 1 4 16, .part 1 5 16, .part 1 6 16, .part 1 7 16, .part 1 0 16, .part 1 1 16, .part 1 2 16, .part 1 3 16]))] 6, .call 23 ⟨none, [.one (.sv 4)], .two (.one .v)⟩ [.one (.rc (.lst [.part 2 4 16, .part 2 5 16, .part 2 6 16, .part 2 7 16, .part 2 0 16, .part 2 1 16, .part 2 2 16, .part 2 3 16]))] 7, .isAgg 6 4, .isAgg 7 4, .call 20 ⟨none, [.one (.sv 4)], .two (.one .v)⟩ [.one (.rc (.lst [.part 6 0 4, .part 6 1 4, .part 6 2 4, .part 6 3 4, .part 7 0 4, .part 7 1 4, .part 7 2 4, .part 7 3 4]))] 8, .isAgg 8 4, .isAgg 0 4, .isAgg 0 4, .call 20 ⟨none, [.one (.sv 4)], .two (.one .v)⟩ [.one (.rc (.lst [.part 1 12 16, .part 1 13 16, .part 1 14 16, .part 1 15 16, .part 0 0 4, .part 0 1 4, .part 0 2 4, .part 0 3 4, .part 2 12 16, .part 2 13 16, .part 2 14 16, .part 2 15 16]))] 9, .isAgg 9 4, .call 20 ⟨none, [.one (.sv 4)], .two (.one .v)⟩ [.one (.rc (.lst [.part 1 8 16, .part 1 9 16, .part 1 10 16, .part 1 11 16, .part 2 8 16, .part 2 9 16, .part 2 10 16, .part 2 11 16, .lit (.int .u64 2), .lit (.int .u64 0), .lit (.int .u64 0), .lit (.int .u64 0)]))] 10, .isAgg 10 4, .isAgg 8 4, .isAgg 5 4, .call 21 ⟨none, [.one .v, .one .v], .two (.one .v)⟩ [.one (.a (.var 8)), .one (.a (.var 5))] 11, .isAgg 10 4, .isAgg 9 4, .call 21 ⟨none, [.one .v, .one .v], .two (.one .v)⟩ [.one (.a (.var 10)), .one (.a (.var 9))] 12, .isAgg 10 4, .isAgg 9 4, .isAgg 10 4, .isAgg 9 4, .call 23 ⟨none, [.one (.sv 4)], .two (.one .v)⟩ [.one (.rc (.lst [.part 10 0 4, .part 10 1 4, .part 10 2 4, .part 10 3 4, .part 9 0 4, .part 9 1 4, .part 9 2 4, .part 9 3 4]))] 13, .isAgg 8 4, .isAgg 5 4, .isAgg 8 4, .isAgg 5 4, .call 23 ⟨none, [.one (.sv 4)], .two (.one .v)⟩ [.one (.rc (.lst [.part 8 0 4, .part 8 1 4, .part 8 2 4, .part 8 3 4, .part 5 0 4, .part 5 1 4, .part 5 2 4, .part 5 3 4]))] 14, .isAgg 11 4, .isAgg 12 4, .isAgg 13 4, .isAgg 14 4, .isAgg 11 4, .isAgg 12 4, .isAgg 11 4, .isAgg 12 4, .call 20 ⟨none, [.one (.sv 4)], .two (.one .v)⟩ [.one (.rc (.lst [.part 11 0 4, .part 11 1 4, .part 11 2 4, .part 11 3 4, .part 12 0 4, .part 12 1 4, .part 12 2 4, .part 12 3 4]))] 15, .isAgg 13 4, .isAgg 14 4, .isAgg 13 4, .isAgg 14 4, .call 20 ⟨none, [.one (.sv 4)], .two (.one .v)⟩ [.one (.rc (.lst [.part 13 0 4, .part 13 1 4, .part 13 2 4, .part 13 3 4, .part 14 0 4, .part 14 1 4, .part 14 2 4, .part 14 3 4]))] 16, .isAgg 15 4, .isAgg 16 4, .isAgg 12 4, .isAgg 13 4, .isAgg 12 4, .isAgg 13 4, .call 20 ⟨none, [.one (.sv 4)], .two (.one .v)⟩ [.one (.rc (.lst [.part 12 0 4, .part 12 1 4, .part 12 2 4, .part 12 3 4, .part 13 0 4, .part 13 1 4, .part 13 2 4, .part 13 3 4]))] 17, .isAgg 11 4, .isAgg 14 4, .isAgg 11 4, .isAgg 14 4, .call 20 ⟨none, [.one (.sv 4)], .two (.one .v)⟩ [.one (.rc (.lst [.part 11 0 4, .part 11 1 4, .part 11 2 4, .part 11 3 4, .part 14 0 4, .part 14 1 4, .part 14 2 4, .part 14 3 4]))] 18, .isAgg 17 4, .isAgg 18 4] (by kernel_rfl) ?_
  refine vc_isAgg rfl rfl rfl ?_
  refine vc_isAgg rfl rfl rfl ?_
  refine vc_isAgg rfl rfl rfl ?_
  refine vc_call c_SubF (ds := [fn [y1], fn [x1]]) (r := fn [y1 - x1]) (fun _ => rfl) rfl (⟨_, _, rfl, rfl⟩) ?_
  refine vc_call c_SubF (ds := [fn [y2], fn [x2]]) (r := fn [y2 - x2]) (fun _ => rfl) rfl (⟨_, _, rfl, rfl⟩) ?_
  refine vc_isAgg rfl rfl rfl ?_
  refine vc_isAgg rfl rfl rfl ?_
  refine vc_call c_MulF (ds := [fn [y1 - x1, y2 - x2]]) (r := fn [prodF [y1 - x1, y2 - x2]]) (fun _ => rfl) rfl (⟨_, (Nat.le_of_ble_eq_true rfl), rfl, rfl⟩) ?_
  refine vc_isAgg rfl rfl rfl ?_
  refine vc_call c_AddF (ds := [fn [y1, x1]]) (r := fn [sumF [y1, x1]]) (fun _ => rfl) rfl (⟨_, (Nat.le_of_ble_eq_true rfl), rfl, rfl⟩) ?_
  refine vc_call c_AddF (ds := [fn [y2, x2]]) (r := fn [sumF [y2, x2]]) (fun _ => rfl) rfl (⟨_, (Nat.le_of_ble_eq_true rfl), rfl, rfl⟩) ?_
  refine vc_isAgg rfl rfl rfl ?_
  refine vc_isAgg rfl rfl rfl ?_
  refine vc_call c_MulF (ds := [fn [sumF [y1, x1], sumF [y2, x2]]]) (r := fn [prodF [sumF [y1, x1], sumF [y2, x2]]]) (fun _ => rfl) rfl (⟨_, (Nat.le_of_ble_eq_true rfl), rfl, rfl⟩) ?_
  refine vc_isAgg rfl rfl rfl ?_
  refine vc_isAgg rfl rfl rfl ?_
  refine vc_isAgg rfl rfl rfl ?_
  refine vc_call c_MulF (ds := [fn [t1, Ed.d + Ed.d, t2]]) (r := fn [prodF [t1, Ed.d + Ed.d, t2]]) (fun _ => rfl) rfl (⟨_, (Nat.le_of_ble_eq_true rfl), rfl, rfl⟩) ?_
  refine vc_isAgg rfl rfl rfl ?_
  refine vc_call c_MulF (ds := [fn [z1, z2, 2]]) (r := fn [prodF [z1, z2, 2]]) (fun _ => rfl) rfl (⟨_, (Nat.le_of_ble_eq_true rfl), rfl, rfl⟩) ?_
  refine vc_isAgg rfl rfl rfl ?_
  refine vc_isAgg rfl rfl rfl ?_
  refine vc_isAgg rfl rfl rfl ?_
  refine vc_call c_SubF (ds := [fn [prodF [sumF [y1, x1], sumF [y2, x2]]], fn [prodF [y1 - x1, y2 - x2]]]) (r := fn [(prodF [sumF [y1, x1], sumF [y2, x2]]) - (prodF [y1 - x1, y2 - x2])]) (fun _ => rfl) rfl (⟨_, _, rfl, rfl⟩) ?_
  refine vc_isAgg rfl rfl rfl ?_
  refine vc_isAgg rfl rfl rfl ?_
  refine vc_call c_SubF (ds := [fn [prodF [z1, z2, 2]], fn [prodF [t1, Ed.d + Ed.d, t2]]]) (r := fn [(prodF [z1, z2, 2]) - (prodF [t1, Ed.d + Ed.d, t2])]) (fun _ => rfl) rfl (⟨_, _, rfl, rfl⟩) ?_
  refine vc_isAgg rfl rfl rfl ?_
  refine vc_isAgg rfl rfl rfl ?_
  refine vc_isAgg rfl rfl rfl ?_
  refine vc_isAgg rfl rfl rfl ?_
  refine vc_call c_AddF (ds := [fn [prodF [z1, z2, 2], prodF [t1, Ed.d + Ed.d, t2]]]) (r := fn [sumF [prodF [z1, z2, 2], prodF [t1, Ed.d + Ed.d, t2]]]) (fun _ => rfl) rfl (⟨_, (Nat.le_of_ble_eq_true rfl), rfl, rfl⟩) ?_
  refine vc_isAgg rfl rfl rfl ?_
  refine vc_isAgg rfl rfl rfl ?_
  refine vc_isAgg rfl rfl rfl ?_
  refine vc_isAgg rfl rfl rfl ?_
  refine vc_call c_AddF (ds := [fn [prodF [sumF [y1, x1], sumF [y2, x2]], prodF [y1 - x1, y2 - x2]]]) (r := fn [sumF [prodF [sumF [y1, x1], sumF [y2, x2]], prodF [y1 - x1, y2 - x2]]]) (fun _ => rfl) rfl (⟨_, (Nat.le_of_ble_eq_true rfl), rfl, rfl⟩) ?_
  refine vc_isAgg rfl rfl rfl ?_
  refine vc_isAgg rfl rfl rfl ?_
  refine vc_isAgg rfl rfl rfl ?_
  refine vc_isAgg rfl rfl rfl ?_
  refine vc_isAgg rfl rfl rfl ?_
  refine vc_isAgg rfl rfl rfl ?_
  refine vc_isAgg rfl rfl rfl ?_
  refine vc_isAgg rfl rfl rfl ?_
  refine vc_call c_MulF (ds := [fn [(prodF [sumF [y1, x1], sumF [y2, x2]]) - (prodF [y1 - x1, y2 - x2]), (prodF [z1, z2, 2]) - (prodF [t1, Ed.d + Ed.d, t2])]]) (r := fn [prodF [(prodF [sumF [y1, x1], sumF [y2, x2]]) - (prodF [y1 - x1, y2 - x2]), (prodF [z1, z2, 2]) - (prodF [t1, Ed.d + Ed.d, t2])]]) (fun _ => rfl) rfl (⟨_, (Nat.le_of_ble_eq_true rfl), rfl, rfl⟩) ?_
  refine vc_isAgg rfl rfl rfl ?_
  refine vc_isAgg rfl rfl rfl ?_
  refine vc_isAgg rfl rfl rfl ?_
  refine vc_isAgg rfl rfl rfl ?_
  refine vc_call c_MulF (ds := [fn [sumF [prodF [z1, z2, 2], prodF [t1, Ed.d + Ed.d, t2]], sumF [prodF [sumF [y1, x1], sumF [y2, x2]], prodF [y1 - x1, y2 - x2]]]]) (r := fn [prodF [sumF [prodF [z1, z2, 2], prodF [t1, Ed.d + Ed.d, t2]], sumF [prodF [sumF [y1, x1], sumF [y2, x2]], prodF [y1 - x1, y2 - x2]]]]) (fun _ => rfl) rfl (⟨_, (Nat.le_of_ble_eq_true rfl), rfl, rfl⟩) ?_
  refine vc_isAgg rfl rfl rfl ?_
  refine vc_isAgg rfl rfl rfl ?_
  refine vc_isAgg rfl rfl rfl ?_
  refine vc_isAgg rfl rfl rfl ?_
  refine vc_isAgg rfl rfl rfl ?_
  refine vc_isAgg rfl rfl rfl ?_
  refine vc_call c_MulF (ds := [fn [(prodF [z1, z2, 2]) - (prodF [t1, Ed.d + Ed.d, t2]), sumF [prodF [z1, z2, 2], prodF [t1, Ed.d + Ed.d, t2]]]]) (r := fn [prodF [(prodF [z1, z2, 2]) - (prodF [t1, Ed.d + Ed.d, t2]), sumF [prodF [z1, z2, 2], prodF [t1, Ed.d + Ed.d, t2]]]]) (fun _ => rfl) rfl (⟨_, (Nat.le_of_ble_eq_true rfl), rfl, rfl⟩) ?_
  refine vc_isAgg rfl rfl rfl ?_
  refine vc_isAgg rfl rfl rfl ?_
  refine vc_isAgg rfl rfl rfl ?_
  refine vc_isAgg rfl rfl rfl ?_
  refine vc_call c_MulF (ds := [fn [(prodF [sumF [y1, x1], sumF [y2, x2]]) - (prodF [y1 - x1, y2 - x2]), sumF [prodF [sumF [y1, x1], sumF [y2, x2]], prodF [y1 - x1, y2 - x2]]]]) (r := fn [prodF [(prodF [sumF [y1, x1], sumF [y2, x2]]) - (prodF [y1 - x1, y2 - x2]), sumF [prodF [sumF [y1, x1], sumF [y2, x2]], prodF [y1 - x1, y2 - x2]]]]) (fun _ => rfl) rfl (⟨_, (Nat.le_of_ble_eq_true rfl), rfl, rfl⟩) ?_
  refine vc_isAgg rfl rfl rfl ?_
  refine vc_isAgg rfl rfl rfl ?_
  refine vc_nil ?_
  refine JF.ret (by kernel_rfl) ?_
  refine hE.fin3 19 [fn [prodF [(prodF [sumF [y1, x1], sumF [y2, x2]]) - (prodF [y1 - x1, y2 - x2]), sumF [prodF [sumF [y1, x1], sumF [y2, x2]], prodF [y1 - x1, y2 - x2]]]], fn [prodF [(prodF [z1, z2, 2]) - (prodF [t1, Ed.d + Ed.d, t2]), sumF [prodF [z1, z2, 2], prodF [t1, Ed.d + Ed.d, t2]]]], fn [prodF [sumF [prodF [z1, z2, 2], prodF [t1, Ed.d + Ed.d, t2]], sumF [prodF [sumF [y1, x1], sumF [y2, x2]], prodF [y1 - x1, y2 - x2]]]], fn [prodF [(prodF [sumF [y1, x1], sumF [y2, x2]]) - (prodF [y1 - x1, y2 - x2]), (prodF [z1, z2, 2]) - (prodF [t1, Ed.d + Ed.d, t2])]], fn [sumF [prodF [sumF [y1, x1], sumF [y2, x2]], prodF [y1 - x1, y2 - x2]]], fn [sumF [prodF [z1, z2, 2], prodF [t1, Ed.d + Ed.d, t2]]], fn [(prodF [z1, z2, 2]) - (prodF [t1, Ed.d + Ed.d, t2])], fn [(prodF [sumF [y1, x1], sumF [y2, x2]]) - (prodF [y1 - x1, y2 - x2])], fn [prodF [z1, z2, 2]], fn [prodF [t1, Ed.d + Ed.d, t2]], fn [prodF [sumF [y1, x1], sumF [y2, x2]]], fn [sumF [y2, x2]], fn [sumF [y1, x1]], fn [prodF [y1 - x1, y2 - x2]], fn [y2 - x2], fn [y1 - x1], fn [x2, y2, z2, t2], fn [x1, y1, z1, t1], fn [Ed.d + Ed.d]] rfl rfl (cm := []) (ds := [.v (.at (.agg [.part 15 0 4, .part 15 1 4, .part 15 2 4, .part 15 3 4, .part 16 0 4, .part 16 1 4, .part 16 2 4, .part 16 3 4, .part 17 0 4, .part 17 1 4, .part 17 2 4, .part 17 3 4, .part 18 0 4, .part 18 1 4, .part 18 2 4, .part 18 3 4]))]) (by kernel_rfl) rfl (.inr rfl) ?_
  refine vc_nil ?_
  show fn [prodF [(prodF [sumF [y1, x1], sumF [y2, x2]]) - (prodF [y1 - x1, y2 - x2]), (prodF [z1, z2, 2]) - (prodF [t1, Ed.d + Ed.d, t2])], prodF [sumF [prodF [z1, z2, 2], prodF [t1, Ed.d + Ed.d, t2]], sumF [prodF [sumF [y1, x1], sumF [y2, x2]], prodF [y1 - x1, y2 - x2]]], prodF [(prodF [z1, z2, 2]) - (prodF [t1, Ed.d + Ed.d, t2]), sumF [prodF [z1, z2, 2], prodF [t1, Ed.d + Ed.d, t2]]], prodF [(prodF [sumF [y1, x1], sumF [y2, x2]]) - (prodF [y1 - x1, y2 - x2]), sumF [prodF [sumF [y1, x1], sumF [y2, x2]], prodF [y1 - x1, y2 - x2]]]] = _
  simp only [prod2, prod3, sum2]
  rfl

noncomputable def E_near_0 : Option Ran := ex1 (cfg 20) (fun _ => none) 0 4000 30000 1 (inSt (v1v)) [.c (bodyOf Try.f61)] .nor
theorem c_near : Ctr Try.prog glb0 61 v1v Φnear := by
  refine ctr (C := cfg 20) mixed ti_ok Try.func61 (by kernel_rfl) ?_
  rintro ds r X Q hl ⟨p, x, y, z, t, h, rfl, rfl⟩ hE
  refine Jd.go2 (E := E_near_0) 1 [fn [x, y, z, t]] rfl rfl rfl [.isAgg 0 16, .call 22 ⟨none, [.one .v], .two (.one .v)⟩ [.agg [.a (.part 0 8 16), .a (.part 0 9 16), .a (.part 0 10 16), .a (.part 0 11 16)]] 1, .isAgg 1 4, .isAgg 1 4, .isAgg 1 4, .call 20 ⟨none, [.one (.sv 4)], .two (.one .v)⟩ [.one (.rc (.lst [.part 0 0 16, .part 0 1 16, .part 0 2 16, .part 0 3 16, .part 1 0 4, .part 1 1 4, .part 1 2 4, .part 1 3 4]))] 2, .isAgg 1 4, .isAgg 1 4, .call 20 ⟨none, [.one (.sv 4)], .two (.one .v)⟩ [.one (.rc (.lst [.part 0 4 16, .part 0 5 16, .part 0 6 16, .part 0 7 16, .part 1 0 4, .part 1 1 4, .part 1 2 4, .part 1 3 4]))] 3, .isAgg 2 4, .isAgg 3 4] (by kernel_rfl) ?_
  refine vc_isAgg rfl rfl rfl ?_
  refine vc_call c_invF (ds := [fn [z]]) (r := fn [inv z]) (fun _ => rfl) rfl (⟨_, rfl, rfl⟩) ?_
  refine vc_isAgg rfl rfl rfl ?_
  refine vc_isAgg rfl rfl rfl ?_
  refine vc_isAgg rfl rfl rfl ?_
  refine vc_call c_MulF (ds := [fn [x, inv z]]) (r := fn [prodF [x, inv z]]) (fun _ => rfl) rfl (⟨_, (Nat.le_of_ble_eq_true rfl), rfl, rfl⟩) ?_
  refine vc_isAgg rfl rfl rfl ?_
  refine vc_isAgg rfl rfl rfl ?_
  refine vc_call c_MulF (ds := [fn [y, inv z]]) (r := fn [prodF [y, inv z]]) (fun _ => rfl) rfl (⟨_, (Nat.le_of_ble_eq_true rfl), rfl, rfl⟩) ?_
  refine vc_isAgg rfl rfl rfl ?_
  refine vc_isAgg rfl rfl rfl ?_
  refine vc_nil ?_
  refine JF.ret (by kernel_rfl) ?_
  refine hE.fin3 4 [fn [prodF [y, inv z]], fn [prodF [x, inv z]], fn [inv z], fn [x, y, z, t]] rfl rfl (cm := []) (ds := [.v (.at (.agg [.part 2 0 4, .part 2 1 4, .part 2 2 4, .part 2 3 4, .part 3 0 4, .part 3 1 4, .part 3 2 4, .part 3 3 4]))]) (by kernel_rfl) rfl (.inr rfl) ?_
  refine vc_nil ?_
  show fn [prodF [x, inv z], prodF [y, inv z]] = _
  rw [prod2, prod2, h.near.1, h.near.2]
  rfl

noncomputable def E_other_0 : Option Ran := ex1 (cfg 29) (fun _ => none) 0 4000 30000 1 (inSt (v1t)) [.c (bodyOf Try.f49)] .nor
theorem c_other : Ctr Try.prog glb0 49 v1t Φother := by
  refine ctr (C := cfg 29) mixed ti_ok Try.func49 (by kernel_rfl) ?_
  rintro ds r X Q hl ⟨y, rfl, rfl⟩ hE
  refine Jd.go2 (E := E_other_0) 1 [fn [y]] rfl rfl rfl [.isAgg 0 4, .isAgg 0 4, .isAgg 0 4, .isAgg 0 4, .isAgg 0 4, .call 20 ⟨none, [.one (.sv 4)], .two (.one .v)⟩ [.one (.rc (.lst [.part 0 0 4, .part 0 1 4, .part 0 2 4, .part 0 3 4, .part 0 0 4, .part 0 1 4, .part 0 2 4, .part 0 3 4]))] 1, .isAgg 1 4, .isAgg 1 4, .call 50 ⟨none, [], .two (.one .v)⟩ [] 2, .call 21 ⟨none, [.one .v, .one .v], .two (.one .v)⟩ [.one (.a (.var 1)), .one (.a (.var 2))] 3, .call 51 ⟨none, [], .two (.one .v)⟩ [] 4, .isAgg 1 4, .isAgg 4 4, .isAgg 1 4, .call 20 ⟨none, [.one (.sv 4)], .two (.one .v)⟩ [.one (.rc (.lst [.part 4 0 4, .part 4 1 4, .part 4 2 4, .part 4 3 4, .part 1 0 4, .part 1 1 4, .part 1 2 4, .part 1 3 4]))] 5, .call 50 ⟨none, [], .two (.one .v)⟩ [] 6, .isAgg 5 4, .isAgg 6 4, .call 23 ⟨none, [.one (.sv 4)], .two (.one .v)⟩ [.one (.rc (.lst [.part 5 0 4, .part 5 1 4, .part 5 2 4, .part 5 3 4, .part 6 0 4, .part 6 1 4, .part 6 2 4, .part 6 3 4]))] 7, .isAgg 3 4, .isAgg 7 4, .isAgg 3 4, .isAgg 7 4, .call 22 ⟨none, [.one .v], .two (.one .v)⟩ [.one (.a (.var 7))] 8, .isAgg 3 4, .isAgg 8 4, .call 20 ⟨none, [.one (.sv 4)], .two (.one .v)⟩ [.one (.rc (.lst [.part 3 0 4, .part 3 1 4, .part 3 2 4, .part 3 3 4, .part 8 0 4, .part 8 1 4, .part 8 2 4, .part 8 3 4]))] 9, .call 19 ⟨none, [.one .v], .tup [.one .v, .one .v]⟩ [.one (.a (.var 9))] 10, .tupc 10 0 11, .tupc 10 1 12, .isAgg 11 4] (by kernel_rfl) ?_
  refine vc_isAgg rfl rfl rfl ?_
  refine vc_isAgg rfl rfl rfl ?_
  refine vc_isAgg rfl rfl rfl ?_
  refine vc_isAgg rfl rfl rfl ?_
  refine vc_isAgg rfl rfl rfl ?_
  refine vc_call c_MulF (ds := [fn [y, y]]) (r := fn [prodF [y, y]]) (fun _ => rfl) rfl (⟨_, (Nat.le_of_ble_eq_true rfl), rfl, rfl⟩) ?_
  refine vc_isAgg rfl rfl rfl ?_
  refine vc_isAgg rfl rfl rfl ?_
  refine vc_call c_one (ds := []) (r := fn [1]) (fun _ => rfl) rfl (⟨rfl, rfl⟩) ?_
  refine vc_call c_SubF (ds := [fn [prodF [y, y]], fn [1]]) (r := fn [(prodF [y, y]) - 1]) (fun _ => rfl) rfl (⟨_, _, rfl, rfl⟩) ?_
  refine vc_call c_factor (ds := []) (r := fn [Ed.d]) (fun _ => rfl) rfl (⟨rfl, rfl⟩) ?_
  refine vc_isAgg rfl rfl rfl ?_
  refine vc_isAgg rfl rfl rfl ?_
  refine vc_isAgg rfl rfl rfl ?_
  refine vc_call c_MulF (ds := [fn [Ed.d, prodF [y, y]]]) (r := fn [prodF [Ed.d, prodF [y, y]]]) (fun _ => rfl) rfl (⟨_, (Nat.le_of_ble_eq_true rfl), rfl, rfl⟩) ?_
  refine vc_call c_one (ds := []) (r := fn [1]) (fun _ => rfl) rfl (⟨rfl, rfl⟩) ?_
  refine vc_isAgg rfl rfl rfl ?_
  refine vc_isAgg rfl rfl rfl ?_
  refine vc_call c_AddF (ds := [fn [prodF [Ed.d, prodF [y, y]], 1]]) (r := fn [sumF [prodF [Ed.d, prodF [y, y]], 1]]) (fun _ => rfl) rfl (⟨_, (Nat.le_of_ble_eq_true rfl), rfl, rfl⟩) ?_
  refine vc_isAgg rfl rfl rfl ?_
  refine vc_isAgg rfl rfl rfl ?_
  refine vc_isAgg rfl rfl rfl ?_
  refine vc_isAgg rfl rfl rfl ?_
  refine vc_call c_invF (ds := [fn [sumF [prodF [Ed.d, prodF [y, y]], 1]]]) (r := fn [inv (sumF [prodF [Ed.d, prodF [y, y]], 1])]) (fun _ => rfl) rfl (⟨_, rfl, rfl⟩) ?_
  refine vc_isAgg rfl rfl rfl ?_
  refine vc_isAgg rfl rfl rfl ?_
  refine vc_call c_MulF (ds := [fn [(prodF [y, y]) - 1, inv (sumF [prodF [Ed.d, prodF [y, y]], 1])]]) (r := fn [prodF [(prodF [y, y]) - 1, inv (sumF [prodF [Ed.d, prodF [y, y]], 1])]]) (fun _ => rfl) rfl (⟨_, (Nat.le_of_ble_eq_true rfl), rfl, rfl⟩) ?_
  refine vc_call c_rootF (ds := [fn [prodF [(prodF [y, y]) - 1, inv (sumF [prodF [Ed.d, prodF [y, y]], 1])]]]) (r := Value.tuple #[fn [Ed.root (prodF [(prodF [y, y]) - 1, inv (sumF [prodF [Ed.d, prodF [y, y]], 1])])], Bo (Ed.isSq (prodF [(prodF [y, y]) - 1, inv (sumF [prodF [Ed.d, prodF [y, y]], 1])]))]) (fun _ => rfl) rfl (⟨_, rfl, rfl⟩) ?_
  refine vc_tupc (fun _ => rfl) rfl rfl ?_
  refine vc_tupc (fun _ => rfl) rfl rfl ?_
  refine vc_isAgg rfl rfl rfl ?_
  refine vc_nil ?_
  refine JF.ret (by kernel_rfl) ?_
  refine hE.fin3 13 [Bo (Ed.isSq (prodF [(prodF [y, y]) - 1, inv (sumF [prodF [Ed.d, prodF [y, y]], 1])])), fn [Ed.root (prodF [(prodF [y, y]) - 1, inv (sumF [prodF [Ed.d, prodF [y, y]], 1])])], Value.tuple #[fn [Ed.root (prodF [(prodF [y, y]) - 1, inv (sumF [prodF [Ed.d, prodF [y, y]], 1])])], Bo (Ed.isSq (prodF [(prodF [y, y]) - 1, inv (sumF [prodF [Ed.d, prodF [y, y]], 1])]))], fn [prodF [(prodF [y, y]) - 1, inv (sumF [prodF [Ed.d, prodF [y, y]], 1])]], fn [inv (sumF [prodF [Ed.d, prodF [y, y]], 1])], fn [sumF [prodF [Ed.d, prodF [y, y]], 1]], fn [1], fn [prodF [Ed.d, prodF [y, y]]], fn [Ed.d], fn [(prodF [y, y]) - 1], fn [1], fn [prodF [y, y]], fn [y]] rfl rfl (cm := [.isAgg 11 4]) (ds := [.v (.at (.one (.var 11))), .v (.at (.one (.var 12)))]) (by kernel_rfl) rfl (.inr rfl) ?_
  refine vc_isAgg rfl rfl rfl ?_
  refine vc_nil ?_
  show Value.tuple #[fn [Ed.root (prodF [(prodF [y, y]) - 1, inv (sumF [prodF [Ed.d, prodF [y, y]], 1])])], Bo (Ed.isSq (prodF [(prodF [y, y]) - 1, inv (sumF [prodF [Ed.d, prodF [y, y]], 1])]))] = _
  simp only [prod2, sum2, uv_eq]

noncomputable def E_base_0 : Option Ran := ex1 (cfg 17) (fun _ => none) 0 4000 30000 0 (inSt (v0)) [.c (bodyOf Try.f40)] .nor
theorem c_base : Ctr Try.prog glb0 40 v0 (Φ0 (PV Ed.Bp)) := by
  refine ctr (C := cfg 17) mixed ti_ok Try.func40 (by kernel_rfl) ?_
  rintro ds r X Q hl ⟨rfl, rfl⟩ hE
  refine Jd.go2 (E := E_base_0) 0 [] rfl rfl rfl [.call 22 ⟨none, [.one .v], .two (.one .v)⟩ [.agg [.a (.lit (.int .u64 5)), .a (.lit (.int .u64 0)), .a (.lit (.int .u64 0)), .a (.lit (.int .u64 0))]] 0, .isAgg 0 4, .call 20 ⟨none, [.one (.sv 4)], .two (.one .v)⟩ [.one (.rc (.lst [.lit (.int .u64 4), .lit (.int .u64 0), .lit (.int .u64 0), .lit (.int .u64 0), .part 0 0 4, .part 0 1 4, .part 0 2 4, .part 0 3 4]))] 1, .isAgg 1 4, .isAgg 1 4, .call 49 ⟨none, [.one .v], .tup [.one .v, .one .v]⟩ [.one (.a (.var 1))] 2, .tupc 2 0 3, .tupc 2 1 4, .isAgg 3 4, .isAgg 3 4, .isAgg 1 4, .isAgg 3 4, .isAgg 1 4] (by kernel_rfl) ?_
  refine vc_call c_invF (ds := [fn [5]]) (r := fn [inv 5]) (fun _ => rfl) rfl (⟨_, rfl, rfl⟩) ?_
  refine vc_isAgg rfl rfl rfl ?_
  refine vc_call c_MulF (ds := [fn [4, inv 5]]) (r := fn [prodF [4, inv 5]]) (fun _ => rfl) rfl (⟨_, (Nat.le_of_ble_eq_true rfl), rfl, rfl⟩) ?_
  refine vc_isAgg rfl rfl rfl ?_
  refine vc_isAgg rfl rfl rfl ?_
  refine vc_call c_other (ds := [fn [prodF [4, inv 5]]]) (r := Value.tuple #[fn [Ed.root (Ed.uv (prodF [4, inv 5]))], Bo (Ed.isSq (Ed.uv (prodF [4, inv 5])))]) (fun _ => rfl) rfl (⟨_, rfl, rfl⟩) ?_
  refine vc_tupc (fun _ => rfl) rfl rfl ?_
  refine vc_tupc (fun _ => rfl) rfl rfl ?_
  refine vc_isAgg rfl rfl rfl ?_
  refine vc_isAgg rfl rfl rfl ?_
  refine vc_isAgg rfl rfl rfl ?_
  refine vc_isAgg rfl rfl rfl ?_
  refine vc_isAgg rfl rfl rfl ?_
  refine vc_nil ?_
  refine JF.ret (by kernel_rfl) ?_
  refine hE.fin3 5 [Bo (Ed.isSq (Ed.uv (prodF [4, inv 5]))), fn [Ed.root (Ed.uv (prodF [4, inv 5]))], Value.tuple #[fn [Ed.root (Ed.uv (prodF [4, inv 5]))], Bo (Ed.isSq (Ed.uv (prodF [4, inv 5])))], fn [prodF [4, inv 5]], fn [inv 5]] rfl rfl (cm := []) (ds := [.v (.at (.agg [.part 3 0 4, .part 3 1 4, .part 3 2 4, .part 3 3 4, .part 1 0 4, .part 1 1 4, .part 1 2 4, .part 1 3 4]))]) (by kernel_rfl) rfl (.inr rfl) ?_
  refine vc_nil ?_
  show fn [Ed.root (Ed.uv (prodF [4, inv 5])), prodF [4, inv 5]] = _
  rw [prod2, base_y, Ed.base_root.1]
  rfl

noncomputable def E_minusP_0 : Option Ran := ex1 (cfg 10) (fun _ => none) 0 4000 30000 1 (inSt (v1v)) [.c (bodyOf Try.f35)] .nor
theorem c_minusP : Ctr Try.prog glb0 35 v1v ΦminusP := by
  refine ctr (C := cfg 10) mixed ti_ok Try.func35 (by kernel_rfl) ?_
  rintro ds r X Q hl ⟨p, rfl, rfl⟩ hE
  refine Jd.go2 (E := E_minusP_0) 1 [PV p] rfl rfl rfl [.isAgg 0 8, .call 21 ⟨none, [.one .v, .one .v], .two (.one .v)⟩ [.agg [.a (.lit (.int .u64 0)), .a (.lit (.int .u64 0)), .a (.lit (.int .u64 0)), .a (.lit (.int .u64 0))], .agg [.a (.part 0 0 8), .a (.part 0 1 8), .a (.part 0 2 8), .a (.part 0 3 8)]] 1, .isAgg 1 4] (by kernel_rfl) ?_
  refine vc_isAgg rfl rfl rfl ?_
  refine vc_call c_SubF (ds := [fn [0], fn [p.x]]) (r := fn [0 - p.x]) (fun _ => rfl) rfl (⟨_, _, rfl, rfl⟩) ?_
  refine vc_isAgg rfl rfl rfl ?_
  refine vc_nil ?_
  refine JF.ret (by kernel_rfl) ?_
  refine hE.fin3 2 [fn [0 - p.x], PV p] rfl rfl (cm := []) (ds := [.v (.at (.agg [.part 1 0 4, .part 1 1 4, .part 1 2 4, .part 1 3 4, .part 0 4 8, .part 0 5 8, .part 0 6 8, .part 0 7 8]))]) (by kernel_rfl) rfl (.inr rfl) ?_
  refine vc_nil ?_
  show fn [0 - p.x, p.y] = _
  rw [zero_sub']
  rfl

noncomputable def E_mont_0 : Option Ran := ex1 (cfg 15) (fun _ => none) 0 4000 30000 1 (inSt (v1v)) [.c (bodyOf Try.f38)] .nor
theorem c_mont : Ctr Try.prog glb0 38 v1v Φmont := by
  refine ctr (C := cfg 15) mixed ti_ok Try.func38 (by kernel_rfl) ?_
  rintro ds r X Q hl ⟨p, rfl, rfl⟩ hE
  refine Jd.go2 (E := E_mont_0) 1 [PV p] rfl rfl rfl [.isAgg 0 8, .call 50 ⟨none, [], .two (.one .v)⟩ [] 1, .isAgg 1 4, .call 23 ⟨none, [.one (.sv 4)], .two (.one .v)⟩ [.one (.rc (.lst [.part 1 0 4, .part 1 1 4, .part 1 2 4, .part 1 3 4, .part 0 4 8, .part 0 5 8, .part 0 6 8, .part 0 7 8]))] 2, .call 50 ⟨none, [], .two (.one .v)⟩ [] 3, .call 21 ⟨none, [.one .v, .one .v], .two (.one .v)⟩ [.one (.a (.var 3)), .agg [.a (.part 0 4 8), .a (.part 0 5 8), .a (.part 0 6 8), .a (.part 0 7 8)]] 4, .call 22 ⟨none, [.one .v], .two (.one .v)⟩ [.one (.a (.var 4))] 5, .isAgg 2 4, .isAgg 5 4, .call 20 ⟨none, [.one (.sv 4)], .two (.one .v)⟩ [.one (.rc (.lst [.part 2 0 4, .part 2 1 4, .part 2 2 4, .part 2 3 4, .part 5 0 4, .part 5 1 4, .part 5 2 4, .part 5 3 4]))] 6, .isAgg 6 4] (by kernel_rfl) ?_
  refine vc_isAgg rfl rfl rfl ?_
  refine vc_call c_one (ds := []) (r := fn [1]) (fun _ => rfl) rfl (⟨rfl, rfl⟩) ?_
  refine vc_isAgg rfl rfl rfl ?_
  refine vc_call c_AddF (ds := [fn [1, p.y]]) (r := fn [sumF [1, p.y]]) (fun _ => rfl) rfl (⟨_, (Nat.le_of_ble_eq_true rfl), rfl, rfl⟩) ?_
  refine vc_call c_one (ds := []) (r := fn [1]) (fun _ => rfl) rfl (⟨rfl, rfl⟩) ?_
  refine vc_call c_SubF (ds := [fn [1], fn [p.y]]) (r := fn [1 - p.y]) (fun _ => rfl) rfl (⟨_, _, rfl, rfl⟩) ?_
  refine vc_call c_invF (ds := [fn [1 - p.y]]) (r := fn [inv (1 - p.y)]) (fun _ => rfl) rfl (⟨_, rfl, rfl⟩) ?_
  refine vc_isAgg rfl rfl rfl ?_
  refine vc_isAgg rfl rfl rfl ?_
  refine vc_call c_MulF (ds := [fn [sumF [1, p.y], inv (1 - p.y)]]) (r := fn [prodF [sumF [1, p.y], inv (1 - p.y)]]) (fun _ => rfl) rfl (⟨_, (Nat.le_of_ble_eq_true rfl), rfl, rfl⟩) ?_
  refine vc_isAgg rfl rfl rfl ?_
  refine vc_nil ?_
  refine JF.ret (by kernel_rfl) ?_
  refine hE.fin3 7 [fn [prodF [sumF [1, p.y], inv (1 - p.y)]], fn [inv (1 - p.y)], fn [1 - p.y], fn [1], fn [sumF [1, p.y]], fn [1], PV p] rfl rfl (cm := [.isAgg 6 4]) (ds := [.v (.at (.one (.var 6)))]) (by kernel_rfl) rfl (.inr rfl) ?_
  refine vc_isAgg rfl rfl rfl ?_
  refine vc_nil ?_
  show fn [prodF [sumF [1, p.y], inv (1 - p.y)]] = _
  rw [prod2, sum2]

noncomputable def E_good_0 : Option Ran := ex1 (cfg 41) (fun n => if n = 3 then some false else if n = 6 then some false else none) 0 4000 30000 1 (inSt (v1v)) [.c (bodyOf Try.f14)] .nor
noncomputable def E_good_1 : Option Ran := ex1 (cfg 41) (fun n => if n = 3 then some false else if n = 6 then some true else none) 0 4000 50000 1 (inSt (v1v)) [.c (bodyOf Try.f14)] .nor
noncomputable def E_good_2 : Option Ran := ex1 (cfg 41) (fun n => if n = 3 then some true else none) 0 4000 70000 1 (inSt (v1v)) [.c (bodyOf Try.f14)] .nor
theorem c_good : Ctr Try.prog glb0 14 v1v Φgood := by
  refine ctr (C := cfg 41) mixed ti_ok Try.func14 (by kernel_rfl) ?_
  rintro ds r X Q hl ⟨x, y, hx, hy, rfl, rfl⟩ hE
  by_cases h1 : x < P
  · by_cases h2 : y < P
    · refine Jd.go2 (E := E_good_0) 1 [nums [x, y]] rfl rfl rfl [.isAgg 0 8, .call 18 ⟨none, [], .two (.one .v)⟩ [] 1, .call 17 ⟨none, [.one .v, .one .v], .two (.one .v)⟩ [.agg [.a (.part 0 0 8), .a (.part 0 1 8), .a (.part 0 2 8), .a (.part 0 3 8)], .one (.a (.var 1))] 2, .un .not (.at (.one (.var 2))) 3, .isBool 3 false, .isBool 3 false, .isBool 3 false, .call 18 ⟨none, [], .two (.one .v)⟩ [] 4, .isBool 3 false, .call 17 ⟨none, [.one .v, .one .v], .two (.one .v)⟩ [.agg [.a (.part 0 4 8), .a (.part 0 5 8), .a (.part 0 6 8), .a (.part 0 7 8)], .one (.a (.var 4))] 5, .isBool 3 false, .un .not (.at (.one (.var 5))) 6, .isBool 3 false, .isBool 6 false, .call 20 ⟨none, [.one (.sv 4)], .two (.one .v)⟩ [.one (.rc (.lst [.part 0 0 8, .part 0 1 8, .part 0 2 8, .part 0 3 8, .part 0 0 8, .part 0 1 8, .part 0 2 8, .part 0 3 8]))] 7, .call 20 ⟨none, [.one (.sv 4)], .two (.one .v)⟩ [.one (.rc (.lst [.part 0 4 8, .part 0 5 8, .part 0 6 8, .part 0 7 8, .part 0 4 8, .part 0 5 8, .part 0 6 8, .part 0 7 8]))] 8, .isAgg 7 4, .isAgg 8 4, .isAgg 8 4, .isAgg 7 4, .call 21 ⟨none, [.one .v, .one .v], .two (.one .v)⟩ [.one (.a (.var 8)), .one (.a (.var 7))] 9, .call 50 ⟨none, [], .two (.one .v)⟩ [] 10, .call 51 ⟨none, [], .two (.one .v)⟩ [] 11, .isAgg 7 4, .isAgg 8 4, .isAgg 11 4, .isAgg 7 4, .isAgg 8 4, .call 20 ⟨none, [.one (.sv 4)], .two (.one .v)⟩ [.one (.rc (.lst [.part 11 0 4, .part 11 1 4, .part 11 2 4, .part 11 3 4, .part 7 0 4, .part 7 1 4, .part 7 2 4, .part 7 3 4, .part 8 0 4, .part 8 1 4, .part 8 2 4, .part 8 3 4]))] 12, .isAgg 10 4, .isAgg 12 4, .call 23 ⟨none, [.one (.sv 4)], .two (.one .v)⟩ [.one (.rc (.lst [.part 10 0 4, .part 10 1 4, .part 10 2 4, .part 10 3 4, .part 12 0 4, .part 12 1 4, .part 12 2 4, .part 12 3 4]))] 13, .bin .eql 26 (.at (.one (.var 9))) (.at (.one (.var 13))) 14] (by kernel_rfl) ?_
      refine vc_isAgg rfl rfl rfl ?_
      refine vc_call c_prime (ds := []) (r := nums [Ed.P]) (fun _ => rfl) rfl (⟨rfl, rfl⟩) ?_
      refine vc_call c_less (ds := [nums [x], nums [Ed.P]]) (r := Bo (decide (x < Ed.P))) (fun _ => rfl) rfl (⟨_, _, hx, (by decide), rfl, rfl⟩) ?_
      refine vc_not (fun _ => rfl) rfl ?_
      refine vc_isBool (by show Bo (!decide _) = _; rw [decide_eq_true h1]; rfl) ?_
      refine vc_isBool (by show Bo (!decide _) = _; rw [decide_eq_true h1]; rfl) ?_
      refine vc_isBool (by show Bo (!decide _) = _; rw [decide_eq_true h1]; rfl) ?_
      refine vc_call c_prime (ds := []) (r := nums [Ed.P]) (fun _ => rfl) rfl (⟨rfl, rfl⟩) ?_
      refine vc_isBool (by show Bo (!decide _) = _; rw [decide_eq_true h1]; rfl) ?_
      refine vc_call c_less (ds := [nums [y], nums [Ed.P]]) (r := Bo (decide (y < Ed.P))) (fun _ => rfl) rfl (⟨_, _, hy, (by decide), rfl, rfl⟩) ?_
      refine vc_isBool (by show Bo (!decide _) = _; rw [decide_eq_true h1]; rfl) ?_
      refine vc_not (fun _ => rfl) rfl ?_
      refine vc_isBool (by show Bo (!decide _) = _; rw [decide_eq_true h1]; rfl) ?_
      refine vc_isBool (by show Bo (!decide _) = _; rw [decide_eq_true h2]; rfl) ?_
      refine vc_call c_Mul (ds := [nums [x, x]]) (r := fn [prodF [ofN x, ofN x]]) (fun _ => rfl) rfl (⟨_, (by simp only [List.forall_mem_cons]; exact ⟨hx, hx, by simp⟩), (Nat.le_of_ble_eq_true rfl), rfl, rfl⟩) ?_
      refine vc_call c_Mul (ds := [nums [y, y]]) (r := fn [prodF [ofN y, ofN y]]) (fun _ => rfl) rfl (⟨_, (by simp only [List.forall_mem_cons]; exact ⟨hy, hy, by simp⟩), (Nat.le_of_ble_eq_true rfl), rfl, rfl⟩) ?_
      refine vc_isAgg rfl rfl rfl ?_
      refine vc_isAgg rfl rfl rfl ?_
      refine vc_isAgg rfl rfl rfl ?_
      refine vc_isAgg rfl rfl rfl ?_
      refine vc_call c_SubF (ds := [fn [prodF [ofN y, ofN y]], fn [prodF [ofN x, ofN x]]]) (r := fn [(prodF [ofN y, ofN y]) - (prodF [ofN x, ofN x])]) (fun _ => rfl) rfl (⟨_, _, rfl, rfl⟩) ?_
      refine vc_call c_one (ds := []) (r := fn [1]) (fun _ => rfl) rfl (⟨rfl, rfl⟩) ?_
      refine vc_call c_factor (ds := []) (r := fn [Ed.d]) (fun _ => rfl) rfl (⟨rfl, rfl⟩) ?_
      refine vc_isAgg rfl rfl rfl ?_
      refine vc_isAgg rfl rfl rfl ?_
      refine vc_isAgg rfl rfl rfl ?_
      refine vc_isAgg rfl rfl rfl ?_
      refine vc_isAgg rfl rfl rfl ?_
      refine vc_call c_MulF (ds := [fn [Ed.d, prodF [ofN x, ofN x], prodF [ofN y, ofN y]]]) (r := fn [prodF [Ed.d, prodF [ofN x, ofN x], prodF [ofN y, ofN y]]]) (fun _ => rfl) rfl (⟨_, (Nat.le_of_ble_eq_true rfl), rfl, rfl⟩) ?_
      refine vc_isAgg rfl rfl rfl ?_
      refine vc_isAgg rfl rfl rfl ?_
      refine vc_call c_AddF (ds := [fn [1, prodF [Ed.d, prodF [ofN x, ofN x], prodF [ofN y, ofN y]]]]) (r := fn [sumF [1, prodF [Ed.d, prodF [ofN x, ofN x], prodF [ofN y, ofN y]]]]) (fun _ => rfl) rfl (⟨_, (Nat.le_of_ble_eq_true rfl), rfl, rfl⟩) ?_
      refine vc_eqlN (m := 1) eqT26 (xs := [((prodF [ofN y, ofN y]) - (prodF [ofN x, ofN x])).val]) (ys := [(sumF [1, prodF [Ed.d, prodF [ofN x, ofN x], prodF [ofN y, ofN y]]]).val]) (by exact fun _ => rfl) (by exact fun _ => rfl) rfl rfl (bnd1 (F_lt _)) (bnd1 (F_lt _)) rfl ?_
      refine vc_nil ?_
      refine JF.ret (by kernel_rfl) ?_
      refine hE.fin3 15 [Bo (decide ([((prodF [ofN y, ofN y]) - (prodF [ofN x, ofN x])).val] = [(sumF [1, prodF [Ed.d, prodF [ofN x, ofN x], prodF [ofN y, ofN y]]]).val])), fn [sumF [1, prodF [Ed.d, prodF [ofN x, ofN x], prodF [ofN y, ofN y]]]], fn [prodF [Ed.d, prodF [ofN x, ofN x], prodF [ofN y, ofN y]]], fn [Ed.d], fn [1], fn [(prodF [ofN y, ofN y]) - (prodF [ofN x, ofN x])], fn [prodF [ofN y, ofN y]], fn [prodF [ofN x, ofN x]], Bo (!(decide (y < Ed.P))), Bo (decide (y < Ed.P)), nums [Ed.P], Bo (!(decide (x < Ed.P))), Bo (decide (x < Ed.P)), nums [Ed.P], nums [x, y]] rfl rfl (cm := []) (ds := [.v (.at (.one (.var 14)))]) (by kernel_rfl) rfl (.inr rfl) ?_
      refine vc_nil ?_
      show Bo (decide ([((prodF [ofN y, ofN y]) - (prodF [ofN x, ofN x])).val] = [(sumF [1, prodF [Ed.d, prodF [ofN x, ofN x], prodF [ofN y, ofN y]]]).val])) = _
      congr 1
      rw [decide_eq_decide, val_inj1]
      unfold Ed.On
      simp only [prod2, prod3, sum2]
      generalize ofN x = u
      generalize ofN y = v
      generalize Ed.d = d
      constructor
      · intro h; exact ⟨h1, h2, by grind⟩
      · intro h; have := h.2.2; grind
    · refine Jd.go2 (E := E_good_1) 1 [nums [x, y]] rfl rfl rfl [.isAgg 0 8, .call 18 ⟨none, [], .two (.one .v)⟩ [] 1, .call 17 ⟨none, [.one .v, .one .v], .two (.one .v)⟩ [.agg [.a (.part 0 0 8), .a (.part 0 1 8), .a (.part 0 2 8), .a (.part 0 3 8)], .one (.a (.var 1))] 2, .un .not (.at (.one (.var 2))) 3, .isBool 3 false, .isBool 3 false, .isBool 3 false, .call 18 ⟨none, [], .two (.one .v)⟩ [] 4, .isBool 3 false, .call 17 ⟨none, [.one .v, .one .v], .two (.one .v)⟩ [.agg [.a (.part 0 4 8), .a (.part 0 5 8), .a (.part 0 6 8), .a (.part 0 7 8)], .one (.a (.var 4))] 5, .isBool 3 false, .un .not (.at (.one (.var 5))) 6, .isBool 3 false, .isBool 6 true] (by kernel_rfl) ?_
      refine vc_isAgg rfl rfl rfl ?_
      refine vc_call c_prime (ds := []) (r := nums [Ed.P]) (fun _ => rfl) rfl (⟨rfl, rfl⟩) ?_
      refine vc_call c_less (ds := [nums [x], nums [Ed.P]]) (r := Bo (decide (x < Ed.P))) (fun _ => rfl) rfl (⟨_, _, hx, (by decide), rfl, rfl⟩) ?_
      refine vc_not (fun _ => rfl) rfl ?_
      refine vc_isBool (by show Bo (!decide _) = _; rw [decide_eq_true h1]; rfl) ?_
      refine vc_isBool (by show Bo (!decide _) = _; rw [decide_eq_true h1]; rfl) ?_
      refine vc_isBool (by show Bo (!decide _) = _; rw [decide_eq_true h1]; rfl) ?_
      refine vc_call c_prime (ds := []) (r := nums [Ed.P]) (fun _ => rfl) rfl (⟨rfl, rfl⟩) ?_
      refine vc_isBool (by show Bo (!decide _) = _; rw [decide_eq_true h1]; rfl) ?_
      refine vc_call c_less (ds := [nums [y], nums [Ed.P]]) (r := Bo (decide (y < Ed.P))) (fun _ => rfl) rfl (⟨_, _, hy, (by decide), rfl, rfl⟩) ?_
      refine vc_isBool (by show Bo (!decide _) = _; rw [decide_eq_true h1]; rfl) ?_
      refine vc_not (fun _ => rfl) rfl ?_
      refine vc_isBool (by show Bo (!decide _) = _; rw [decide_eq_true h1]; rfl) ?_
      refine vc_isBool (by show Bo (!decide _) = _; rw [decide_eq_false h2]; rfl) ?_
      refine vc_nil ?_
      refine JF.ret (by kernel_rfl) ?_
      refine hE.fin3 7 [Bo (!(decide (y < Ed.P))), Bo (decide (y < Ed.P)), nums [Ed.P], Bo (!(decide (x < Ed.P))), Bo (decide (x < Ed.P)), nums [Ed.P], nums [x, y]] rfl rfl (cm := []) (ds := [.v (.at (.one (.lit (.bool false))))]) (by kernel_rfl) rfl (.inr rfl) ?_
      refine vc_nil ?_
      show Bo false = _
      rw [decide_eq_false (fun h => h2 h.2.1)]
  · refine Jd.go2 (E := E_good_2) 1 [nums [x, y]] rfl rfl rfl [.isAgg 0 8, .call 18 ⟨none, [], .two (.one .v)⟩ [] 1, .call 17 ⟨none, [.one .v, .one .v], .two (.one .v)⟩ [.agg [.a (.part 0 0 8), .a (.part 0 1 8), .a (.part 0 2 8), .a (.part 0 3 8)], .one (.a (.var 1))] 2, .un .not (.at (.one (.var 2))) 3, .isBool 3 true, .isBool 3 true, .isBool 3 true, .isBool 3 true, .isBool 3 true, .isBool 3 true] (by kernel_rfl) ?_
    refine vc_isAgg rfl rfl rfl ?_
    refine vc_call c_prime (ds := []) (r := nums [Ed.P]) (fun _ => rfl) rfl (⟨rfl, rfl⟩) ?_
    refine vc_call c_less (ds := [nums [x], nums [Ed.P]]) (r := Bo (decide (x < Ed.P))) (fun _ => rfl) rfl (⟨_, _, hx, (by decide), rfl, rfl⟩) ?_
    refine vc_not (fun _ => rfl) rfl ?_
    refine vc_isBool (by show Bo (!decide _) = _; rw [decide_eq_false h1]; rfl) ?_
    refine vc_isBool (by show Bo (!decide _) = _; rw [decide_eq_false h1]; rfl) ?_
    refine vc_isBool (by show Bo (!decide _) = _; rw [decide_eq_false h1]; rfl) ?_
    refine vc_isBool (by show Bo (!decide _) = _; rw [decide_eq_false h1]; rfl) ?_
    refine vc_isBool (by show Bo (!decide _) = _; rw [decide_eq_false h1]; rfl) ?_
    refine vc_isBool (by show Bo (!decide _) = _; rw [decide_eq_false h1]; rfl) ?_
    refine vc_nil ?_
    refine JF.ret (by kernel_rfl) ?_
    refine hE.fin3 4 [Bo (!(decide (x < Ed.P))), Bo (decide (x < Ed.P)), nums [Ed.P], nums [x, y]] rfl rfl (cm := []) (ds := [.v (.at (.one (.lit (.bool false))))]) (by kernel_rfl) rfl (.inr rfl) ?_
    refine vc_nil ?_
    show Bo false = _
    rw [decide_eq_false (fun h => h1 h.1)]

end Go.Proofs.Ytpeafegfjhljmaa

/-
  Functions of the program: what each computes.
-/
open Go Go.Sx Go.Proofs
open Ed (F P inv pw Pt)
namespace Go.Proofs.Ytpeafegfjhljmaa
set_option maxRecDepth 100000
set_option maxHeartbeats 4000000
noncomputable def E_addP_0 : Option Ran := ex1 (cfg 24) (fun _ => none) 0 4000 30000 1 (inSt ((s1v 8))) [.c (bodyOf Try.f32)] .nor
def T_addP : St := ⟨[(12, .at (.one (.var 5))), (11, .at (.one (.var 4))), (10, .at (.one (.sl 10000))), (4, .at (.one (.ptr 30020 0))), (3, .at (.one (.ptr 30016 0))), (2, .at (.one (.ptr 30000 0))), (0, .at (.one (.sl 10000)))], [(30020, some ⟨.lst [.part 6 0 16, .part 6 1 16, .part 6 2 16, .part 6 3 16, .part 6 4 16, .part 6 5 16, .part 6 6 16, .part 6 7 16, .part 6 8 16, .part 6 9 16, .part 6 10 16, .part 6 11 16, .part 6 12 16, .part 6 13 16, .part 6 14 16, .part 6 15 16], 0, none⟩), (30016, some ⟨.lst [.part 1 0 4, .part 1 1 4, .part 1 2 4, .part 1 3 4], 0, none⟩), (30000, some ⟨.lst [.lit (.int .u64 0), .lit (.int .u64 0), .lit (.int .u64 0), .lit (.int .u64 0), .lit (.int .u64 0), .lit (.int .u64 0), .lit (.int .u64 0), .lit (.int .u64 0)], 0, none⟩), (10000, some ⟨.all 0, 8, none⟩)], [(30020, true), (30016, true), (30000, true)]⟩
noncomputable def E_addP_1 : Option Ran := ex1 (cfg 24) (fun n => if n = 7 then some true else none) 0 4000 50000 7 (T_addP) [.c (codeF E_addP_0)] .nor
noncomputable def E_addP_2 : Option Ran := ex1 (cfg 24) (fun n => if n = 7 then some false else none) 0 4000 70000 7 (T_addP) [.c (codeF E_addP_0)] .nor
noncomputable def E_addP_3 : Option Ran := ex1 (cfg 24) (fun _ => none) 0 4000 90000 8 (stOf E_addP_2) (kontF E_addP_0) (.exit 0)
theorem c_addP : Ctr Try.prog glb0 32 (s1v 8) ΦaddPts := by
  refine ctr (C := cfg 24) mixed ti_ok Try.func32 (by kernel_rfl) ?_
  rintro ds r X Q hl ⟨l, hn, rfl, rfl⟩ hE
  refine Jd.go2 (E := E_addP_0) 1 [pts l] rfl rfl rfl [.call 58 ⟨none, [], .two (.one .v)⟩ [] 1, .call 36 ⟨none, [], .two (.one .v)⟩ [] 2, .call 59 ⟨none, [.one .v], .two (.one .v)⟩ [.one (.a (.var 2))] 3, .isAgg 1 4, .isAgg 3 16, .len 0 8 4] (by kernel_rfl) ?_
  refine vc_call c_open (ds := []) (r := fn [Ed.d + Ed.d]) (fun _ => rfl) rfl (⟨rfl, rfl⟩) ?_
  refine vc_call c_naught (ds := []) (r := PV ((0 : Pt))) (fun _ => rfl) rfl (⟨rfl, rfl⟩) ?_
  refine vc_call c_far (ds := [PV ((0 : Pt))]) (r := fn [((0 : Pt)).x, ((0 : Pt)).y, 1, ((0 : Pt)).x * ((0 : Pt)).y]) (fun _ => rfl) rfl (⟨_, rfl, rfl⟩) ?_
  refine vc_isAgg rfl rfl rfl ?_
  refine vc_isAgg rfl rfl rfl ?_
  refine vc_len (k := l.length) (by exact fun _ => rfl) (pts_size l) rfl ?_
  refine vc_nil ?_
  refine JF.loop (by kernel_rfl) ?_
  refine Jd.loop (T := T_addP) (m := 2) (Inv := fun n xs => ∃ i x y z t, i ≤ l.length ∧ Ed.Rep (Ed.sumP (l.take i)) x y z t ∧ xs = [I i, fn [x, y, z, t]] ∧ n = l.length - i) (n0 := l.length) (τ := [.at (.one (.lit (.int .i64 0))), .at (.one (.var 3))]) (π := []) (by kernel_rfl) (by kernel_rfl) ?_ fun n xs hlen hI => ?_
  · exact ⟨0, 0, 1, 1, 0, Nat.zero_le _, ⟨Ed.one_ne_zero, rfl, rfl, rfl⟩, by kernel_rfl, rfl⟩
  obtain ⟨i, x, y, z, t, hi, hr, rfl, rfl⟩ := hI
  by_cases hlt : i < l.length
  · refine Jd.go2 (E := E_addP_1) 7 [fn [x, y, z, t], I i, I l.length, fn [((0 : Pt)).x, ((0 : Pt)).y, 1, ((0 : Pt)).x * ((0 : Pt)).y], PV ((0 : Pt)), fn [Ed.d + Ed.d], pts l] rfl rfl rfl [.bin .lss 3 (.at (.one (.var 5))) (.at (.one (.var 4))) 7, .isBool 7 true, .bndl 5 0 8, .getxa (.all 0) 5 8 8 8, .isAgg 8 8, .isAgg 1 4, .isAgg 6 16, .isAgg 8 8, .call 59 ⟨none, [.one .v], .two (.one .v)⟩ [.one (.a (.var 8))] 9, .call 60 ⟨none, [.one .v, .one .v, .one .v], .two (.one .v)⟩ [.one (.a (.var 1)), .one (.a (.var 6)), .one (.a (.var 9))] 10, .isAgg 10 16, .bin .add 3 (.at (.one (.var 5))) (.at (.one (.lit (.int .i64 1)))) 11] (by kernel_rfl) ?_
    refine vc_cmp (op := .lss) (x := i) (y := l.length) (k := .i64) (t := decide (i < l.length)) (by exact fun _ => rfl) (by exact fun _ => rfl) rfl rfl ?_
    refine vc_isBool (by show Bo (decide _) = _; rw [decide_eq_true hlt]; rfl) ?_
    refine vc_bndl (i := i) rfl rfl (by rw [pts_size]; omega) ?_
    refine vc_getxaP (xs := l) hlt (by exact fun _ => rfl) (by exact fun _ => rfl) rfl ?_
    refine vc_isAgg rfl rfl rfl ?_
    refine vc_isAgg rfl rfl rfl ?_
    refine vc_isAgg rfl rfl rfl ?_
    refine vc_isAgg rfl rfl rfl ?_
    refine vc_call c_far (ds := [PV (l[i])]) (r := fn [(l[i]).x, (l[i]).y, 1, (l[i]).x * (l[i]).y]) (fun _ => rfl) rfl (⟨_, rfl, rfl⟩) ?_
    refine vc_call c_adder (ds := [fn [Ed.d + Ed.d], fn [x, y, z, t], fn [(l[i]).x, (l[i]).y, 1, (l[i]).x * (l[i]).y]]) (r := fn [(Ed.pe x y ((l[i]).x) ((l[i]).y)) * (Ed.pf z t 1 ((l[i]).x * (l[i]).y)), (Ed.pg z t 1 ((l[i]).x * (l[i]).y)) * (Ed.ph x y ((l[i]).x) ((l[i]).y)), (Ed.pf z t 1 ((l[i]).x * (l[i]).y)) * (Ed.pg z t 1 ((l[i]).x * (l[i]).y)), (Ed.pe x y ((l[i]).x) ((l[i]).y)) * (Ed.ph x y ((l[i]).x) ((l[i]).y))]) (fun _ => rfl) rfl (⟨_, _, _, _, _, _, _, _, rfl, rfl⟩) ?_
    refine vc_isAgg rfl rfl rfl ?_
    refine vc_addI (x := i) (y := 1) (fun _ => rfl) (fun _ => rfl) (by omega) rfl ?_
    refine vc_nil ?_
    refine JF.nor (by kernel_rfl) ?_
    exact Jd.next (m := 2) (τ := [.at (.one (.var 11)), .at (.one (.var 10))]) (π := []) (l.length - (i + 1)) (by kernel_rfl) (by kernel_rfl) (by kernel_rfl) (by omega) (⟨i + 1, _, _, _, _, hlt, by rw [sumP_take l i hlt]; exact hr.add (Ed.Rep.far l[i]), rfl, rfl⟩)
  · rw [List.take_of_length_le (by omega)] at hr
    refine Jd.go2 (E := E_addP_2) 7 [fn [x, y, z, t], I i, I l.length, fn [((0 : Pt)).x, ((0 : Pt)).y, 1, ((0 : Pt)).x * ((0 : Pt)).y], PV ((0 : Pt)), fn [Ed.d + Ed.d], pts l] rfl rfl rfl [.bin .lss 3 (.at (.one (.var 5))) (.at (.one (.var 4))) 7, .isBool 7 false] (by kernel_rfl) ?_
    refine vc_cmp (op := .lss) (x := i) (y := l.length) (k := .i64) (t := decide (i < l.length)) (by exact fun _ => rfl) (by exact fun _ => rfl) rfl rfl ?_
    refine vc_isBool (by show Bo (decide _) = _; rw [decide_eq_false hlt]; rfl) ?_
    refine vc_nil ?_
    refine JF.exit (n := 0) (by kernel_rfl) ?_
    refine Jd.out (by simp) ?_
    refine Jd.go2 (E := E_addP_3) 8 [Bo (decide (i < l.length)), fn [x, y, z, t], I i, I l.length, fn [((0 : Pt)).x, ((0 : Pt)).y, 1, ((0 : Pt)).x * ((0 : Pt)).y], PV ((0 : Pt)), fn [Ed.d + Ed.d], pts l] rfl rfl rfl [.isAgg 6 16, .call 61 ⟨none, [.one .v], .two (.one .v)⟩ [.one (.a (.var 6))] 8, .isAgg 8 8] (by kernel_rfl) ?_
    refine vc_isAgg rfl rfl rfl ?_
    refine vc_call c_near (ds := [fn [x, y, z, t]]) (r := PV ((Ed.sumP l))) (fun _ => rfl) rfl (⟨_, _, _, _, _, hr, rfl, rfl⟩) ?_
    refine vc_isAgg rfl rfl rfl ?_
    refine vc_nil ?_
    refine JF.ret (by kernel_rfl) ?_
    refine hE.fin3 9 [PV ((Ed.sumP l)), Bo (decide (i < l.length)), fn [x, y, z, t], I i, I l.length, fn [((0 : Pt)).x, ((0 : Pt)).y, 1, ((0 : Pt)).x * ((0 : Pt)).y], PV ((0 : Pt)), fn [Ed.d + Ed.d], pts l] rfl rfl (cm := [.isAgg 8 8]) (ds := [.v (.at (.one (.var 8)))]) (by kernel_rfl) rfl (.inr rfl) ?_
    refine vc_isAgg rfl rfl rfl ?_
    refine vc_nil ?_
    show PV ((Ed.sumP l)) = _
    rfl

noncomputable def E_timesP_0 : Option Ran := ex1 (cfg 37) (fun _ => none) 0 4000 30000 2 (inSt (v2v)) [.c (bodyOf Try.f28)] .nor
def T_timesP : St := ⟨[(8, .at (.one (.var 6))), (7, .at (.one (.ptr 30040 0))), (6, .at (.one (.ptr 30036 0))), (5, .at (.one (.ptr 30032 0))), (4, .at (.one (.ptr 30008 0))), (3, .at (.one (.ptr 30004 0))), (2, .at (.one (.ptr 30000 0)))], [(30040, some ⟨.lst [.part 5 0 16, .part 5 1 16, .part 5 2 16, .part 5 3 16, .part 5 4 16, .part 5 5 16, .part 5 6 16, .part 5 7 16, .part 5 8 16, .part 5 9 16, .part 5 10 16, .part 5 11 16, .part 5 12 16, .part 5 13 16, .part 5 14 16, .part 5 15 16], 0, none⟩), (30036, some ⟨.lst [.part 7 0 16, .part 7 1 16, .part 7 2 16, .part 7 3 16, .part 7 4 16, .part 7 5 16, .part 7 6 16, .part 7 7 16, .part 7 8 16, .part 7 9 16, .part 7 10 16, .part 7 11 16, .part 7 12 16, .part 7 13 16, .part 7 14 16, .part 7 15 16], 0, none⟩), (30032, some ⟨.lst [.part 2 0 4, .part 2 1 4, .part 2 2 4, .part 2 3 4], 0, none⟩), (30008, some ⟨.lst [.lit (.int .u64 0), .lit (.int .u64 0), .lit (.int .u64 0), .lit (.int .u64 0), .lit (.int .u64 0), .lit (.int .u64 0), .lit (.int .u64 0), .lit (.int .u64 0)], 0, none⟩), (30004, some ⟨.lst [.part 1 0 4, .part 1 1 4, .part 1 2 4, .part 1 3 4], 0, none⟩), (30000, some ⟨.lst [.part 0 0 8, .part 0 1 8, .part 0 2 8, .part 0 3 8, .part 0 4 8, .part 0 5 8, .part 0 6 8, .part 0 7 8], 0, none⟩)], [(30040, true), (30036, true), (30032, true), (30008, true), (30004, true), (30000, true)]⟩
noncomputable def E_timesP_1 : Option Ran := ex1 (cfg 37) (fun n => if n = 8 then some true else if n = 15 then some true else none) 0 4000 50000 8 (T_timesP) [.c (codeF E_timesP_0)] .nor
noncomputable def E_timesP_2 : Option Ran := ex1 (cfg 37) (fun n => if n = 8 then some true else if n = 15 then some false else none) 0 4000 70000 8 (T_timesP) [.c (codeF E_timesP_0)] .nor
noncomputable def E_timesP_3 : Option Ran := ex1 (cfg 37) (fun n => if n = 8 then some false else none) 0 4000 90000 8 (T_timesP) [.c (codeF E_timesP_0)] .nor
noncomputable def E_timesP_4 : Option Ran := ex1 (cfg 37) (fun _ => none) 0 4000 110000 9 (stOf E_timesP_3) (kontF E_timesP_0) (.exit 0)
theorem c_timesP : Ctr Try.prog glb0 28 v2v ΦtimesP := by
  refine ctr (C := cfg 37) mixed ti_ok Try.func28 (by kernel_rfl) ?_
  rintro ds r X Q hl ⟨p, e, he, rfl, rfl⟩ hE
  refine Jd.go2 (E := E_timesP_0) 2 [nums [e], PV p] rfl rfl rfl [.isAgg 0 8, .isAgg 1 4, .call 58 ⟨none, [], .two (.one .v)⟩ [] 2, .call 36 ⟨none, [], .two (.one .v)⟩ [] 3, .call 59 ⟨none, [.one .v], .two (.one .v)⟩ [.one (.a (.var 3))] 4, .isAgg 0 8, .call 59 ⟨none, [.one .v], .two (.one .v)⟩ [.one (.a (.var 0))] 5, .isAgg 2 4, .isAgg 4 16, .isAgg 5 16] (by kernel_rfl) ?_
  refine vc_isAgg rfl rfl rfl ?_
  refine vc_isAgg rfl rfl rfl ?_
  refine vc_call c_open (ds := []) (r := fn [Ed.d + Ed.d]) (fun _ => rfl) rfl (⟨rfl, rfl⟩) ?_
  refine vc_call c_naught (ds := []) (r := PV ((0 : Pt))) (fun _ => rfl) rfl (⟨rfl, rfl⟩) ?_
  refine vc_call c_far (ds := [PV ((0 : Pt))]) (r := fn [((0 : Pt)).x, ((0 : Pt)).y, 1, ((0 : Pt)).x * ((0 : Pt)).y]) (fun _ => rfl) rfl (⟨_, rfl, rfl⟩) ?_
  refine vc_isAgg rfl rfl rfl ?_
  refine vc_call c_far (ds := [PV p]) (r := fn [p.x, p.y, 1, p.x * p.y]) (fun _ => rfl) rfl (⟨_, rfl, rfl⟩) ?_
  refine vc_isAgg rfl rfl rfl ?_
  refine vc_isAgg rfl rfl rfl ?_
  refine vc_isAgg rfl rfl rfl ?_
  refine vc_nil ?_
  refine JF.loop (by kernel_rfl) ?_
  refine Jd.loop (T := T_timesP) (m := 2) (Inv := fun n xs => (∃ j x y z t, j < 256 ∧ n = j + 1 ∧ Ed.Rep (Ed.smul (e / 2 ^ (j + 1)) p) x y z t ∧ xs = [I j, fn [x, y, z, t]]) ∨ (∃ x y z t, n = 0 ∧ Ed.Rep (Ed.smul e p) x y z t ∧ xs = [Value.int .i64 (-1), fn [x, y, z, t]])) (n0 := 256) (τ := [.at (.one (.lit (.int .i64 255))), .at (.one (.var 4))]) (π := []) (by kernel_rfl) (by kernel_rfl) ?_ fun n xs hlen hI => ?_
  · exact .inl ⟨255, 0, 1, 1, 0 * 1, by decide, rfl, by rw [show e / 2 ^ (255 + 1) = 0 from Nat.div_eq_of_lt (Nat.lt_of_lt_of_le he (by decide))]; exact Ed.Rep.far 0, by kernel_rfl⟩
  rcases hI with ⟨j, x, y, z, t, hj, rfl, hr, rfl⟩ | ⟨x, y, z, t, rfl, hr, rfl⟩
  · obtain ⟨k1, k2⟩ := smul_bit p e j
    have bw := bit_word e j
    by_cases hb : e / 2 ^ j % 2 = 1
    · refine Jd.go2 (E := E_timesP_1) 8 [fn [x, y, z, t], I j, fn [p.x, p.y, 1, p.x * p.y], fn [((0 : Pt)).x, ((0 : Pt)).y, 1, ((0 : Pt)).x * ((0 : Pt)).y], PV ((0 : Pt)), fn [Ed.d + Ed.d], nums [e], PV p] rfl rfl rfl [.bin .geq 3 (.at (.one (.var 6))) (.at (.one (.lit (.int .i64 0)))) 8, .isBool 8 true, .isAgg 2 4, .isAgg 7 16, .isAgg 7 16, .call 60 ⟨none, [.one .v, .one .v, .one .v], .two (.one .v)⟩ [.one (.a (.var 2)), .one (.a (.var 7)), .one (.a (.var 7))] 9, .isAgg 9 16, .bin .quo 3 (.at (.one (.var 6))) (.at (.one (.lit (.int .i64 64)))) 10, .bnd 10 4, .getx (.lst [.part 1 0 4, .part 1 1 4, .part 1 2 4, .part 1 3 4]) 10 1 11, .bin .rem 3 (.at (.one (.var 6))) (.at (.one (.lit (.int .i64 64)))) 12, .bin .shr 24 (.at (.one (.var 11))) (.at (.one (.var 12))) 13, .bin .and 24 (.at (.one (.var 13))) (.at (.one (.lit (.int .u64 1)))) 14, .bin .eql 24 (.at (.one (.var 14))) (.at (.one (.lit (.int .u64 1)))) 15, .isBool 15 true, .isAgg 2 4, .isAgg 9 16, .isAgg 5 16, .call 60 ⟨none, [.one .v, .one .v, .one .v], .two (.one .v)⟩ [.one (.a (.var 2)), .one (.a (.var 9)), .one (.a (.var 5))] 16, .isAgg 16 16, .bin .sub 3 (.at (.one (.var 6))) (.at (.one (.lit (.int .i64 1)))) 17] (by kernel_rfl) ?_
      refine vc_cmp (op := .geq) (x := j) (y := (0 : Nat)) (k := .i64) (t := decide (0 ≤ j)) (by exact fun _ => rfl) (by exact fun _ => rfl) rfl rfl ?_
      refine vc_isBool (by show Bo (decide _) = _; rw [decide_eq_true (Nat.zero_le _)]; rfl) ?_
      refine vc_isAgg rfl rfl rfl ?_
      refine vc_isAgg rfl rfl rfl ?_
      refine vc_isAgg rfl rfl rfl ?_
      refine vc_call c_adder (ds := [fn [Ed.d + Ed.d], fn [x, y, z, t], fn [x, y, z, t]]) (r := fn [(Ed.pe x y x y) * (Ed.pf z t z t), (Ed.pg z t z t) * (Ed.ph x y x y), (Ed.pf z t z t) * (Ed.pg z t z t), (Ed.pe x y x y) * (Ed.ph x y x y)]) (fun _ => rfl) rfl (⟨_, _, _, _, _, _, _, _, rfl, rfl⟩) ?_
      refine vc_isAgg rfl rfl rfl ?_
      refine vc_quoI (x := j) (y := 64) (fun _ => rfl) (fun _ => rfl) (by omega) (by decide) rfl ?_
      refine vc_bnd (i := j / 64) rfl (by omega) ?_
      refine vc_getx (i := j / 64) (cl := wds 4 e) (by exact fun _ => rfl) (by exact fun _ => rfl) (by rw [Nat.mul_one]; exact word_get e (j / 64) (by omega)) rfl ?_
      refine vc_remI (x := j) (y := 64) (fun _ => rfl) (fun _ => rfl) (by decide) rfl ?_
      refine vc_shr64 (x := e / 2 ^ (64 * (j / 64)) % 18446744073709551616) (y := j % 64) (by exact fun _ => rfl) (by exact fun _ => rfl) rfl (by omega) fun w1 hw1 => ?_
      refine vc_and64 (x := w1) (y := 1) (by exact fun _ => rfl) (by exact fun _ => rfl) rfl (by rw [hw1]; exact Nat.lt_of_le_of_lt (Nat.div_le_self _ _) (Nat.mod_lt _ (by decide))) (by decide) fun w2 hw2 => ?_
      rw [Nat.and_one_is_mod, hw1, bw] at hw2
      refine vc_eql64 (x := w2) (y := 1) (by exact fun _ => rfl) (by exact fun _ => rfl) rfl fun w3 hw3 => ?_
      refine vc_isBool (by show Bo w3 = _; rw [hw3, hw2]; simp [Bo, hb]) ?_
      refine vc_isAgg rfl rfl rfl ?_
      refine vc_isAgg rfl rfl rfl ?_
      refine vc_isAgg rfl rfl rfl ?_
      refine vc_call c_adder (ds := [fn [Ed.d + Ed.d], fn [(Ed.pe x y x y) * (Ed.pf z t z t), (Ed.pg z t z t) * (Ed.ph x y x y), (Ed.pf z t z t) * (Ed.pg z t z t), (Ed.pe x y x y) * (Ed.ph x y x y)], fn [p.x, p.y, 1, p.x * p.y]]) (r := fn [(Ed.pe ((Ed.pe x y x y) * (Ed.pf z t z t)) ((Ed.pg z t z t) * (Ed.ph x y x y)) p.x p.y) * (Ed.pf ((Ed.pf z t z t) * (Ed.pg z t z t)) ((Ed.pe x y x y) * (Ed.ph x y x y)) 1 (p.x * p.y)), (Ed.pg ((Ed.pf z t z t) * (Ed.pg z t z t)) ((Ed.pe x y x y) * (Ed.ph x y x y)) 1 (p.x * p.y)) * (Ed.ph ((Ed.pe x y x y) * (Ed.pf z t z t)) ((Ed.pg z t z t) * (Ed.ph x y x y)) p.x p.y), (Ed.pf ((Ed.pf z t z t) * (Ed.pg z t z t)) ((Ed.pe x y x y) * (Ed.ph x y x y)) 1 (p.x * p.y)) * (Ed.pg ((Ed.pf z t z t) * (Ed.pg z t z t)) ((Ed.pe x y x y) * (Ed.ph x y x y)) 1 (p.x * p.y)), (Ed.pe ((Ed.pe x y x y) * (Ed.pf z t z t)) ((Ed.pg z t z t) * (Ed.ph x y x y)) p.x p.y) * (Ed.ph ((Ed.pe x y x y) * (Ed.pf z t z t)) ((Ed.pg z t z t) * (Ed.ph x y x y)) p.x p.y)]) (fun _ => rfl) rfl (⟨_, _, _, _, _, _, _, _, rfl, rfl⟩) ?_
      refine vc_isAgg rfl rfl rfl ?_
      refine vc_subI (x := j) (y := 1) (by exact fun _ => rfl) (by exact fun _ => rfl) (by omega) (by decide) rfl ?_
      refine vc_nil ?_
      refine JF.nor (by kernel_rfl) ?_
      cases j with
      | zero =>
        exact Jd.next (m := 2) (τ := [.at (.one (.var 17)), .at (.one (.var 16))]) (π := []) (0) (by kernel_rfl) (by kernel_rfl) (by kernel_rfl) (by omega) (.inr ⟨_, _, _, _, rfl, by have hk := k1 hb; rw [show e / 2 ^ 0 = e by simp] at hk; rw [← hk]; exact (hr.add hr).add (Ed.Rep.far p), rfl⟩)
      | succ j =>
        exact Jd.next (m := 2) (τ := [.at (.one (.var 17)), .at (.one (.var 16))]) (π := []) (j + 1) (by kernel_rfl) (by kernel_rfl) (by kernel_rfl) (by omega) (.inl ⟨j, _, _, _, _, by omega, rfl, by rw [← k1 hb]; exact (hr.add hr).add (Ed.Rep.far p), by show [Value.int .i64 (((j + 1 : Nat) : Int) - (1 : Nat)), _] = _; rw [show ((j + 1 : Nat) : Int) - (1 : Nat) = (j : Int) by omega]; rfl⟩)
    · refine Jd.go2 (E := E_timesP_2) 8 [fn [x, y, z, t], I j, fn [p.x, p.y, 1, p.x * p.y], fn [((0 : Pt)).x, ((0 : Pt)).y, 1, ((0 : Pt)).x * ((0 : Pt)).y], PV ((0 : Pt)), fn [Ed.d + Ed.d], nums [e], PV p] rfl rfl rfl [.bin .geq 3 (.at (.one (.var 6))) (.at (.one (.lit (.int .i64 0)))) 8, .isBool 8 true, .isAgg 2 4, .isAgg 7 16, .isAgg 7 16, .call 60 ⟨none, [.one .v, .one .v, .one .v], .two (.one .v)⟩ [.one (.a (.var 2)), .one (.a (.var 7)), .one (.a (.var 7))] 9, .isAgg 9 16, .bin .quo 3 (.at (.one (.var 6))) (.at (.one (.lit (.int .i64 64)))) 10, .bnd 10 4, .getx (.lst [.part 1 0 4, .part 1 1 4, .part 1 2 4, .part 1 3 4]) 10 1 11, .bin .rem 3 (.at (.one (.var 6))) (.at (.one (.lit (.int .i64 64)))) 12, .bin .shr 24 (.at (.one (.var 11))) (.at (.one (.var 12))) 13, .bin .and 24 (.at (.one (.var 13))) (.at (.one (.lit (.int .u64 1)))) 14, .bin .eql 24 (.at (.one (.var 14))) (.at (.one (.lit (.int .u64 1)))) 15, .isBool 15 false, .bin .sub 3 (.at (.one (.var 6))) (.at (.one (.lit (.int .i64 1)))) 16] (by kernel_rfl) ?_
      refine vc_cmp (op := .geq) (x := j) (y := (0 : Nat)) (k := .i64) (t := decide (0 ≤ j)) (by exact fun _ => rfl) (by exact fun _ => rfl) rfl rfl ?_
      refine vc_isBool (by show Bo (decide _) = _; rw [decide_eq_true (Nat.zero_le _)]; rfl) ?_
      refine vc_isAgg rfl rfl rfl ?_
      refine vc_isAgg rfl rfl rfl ?_
      refine vc_isAgg rfl rfl rfl ?_
      refine vc_call c_adder (ds := [fn [Ed.d + Ed.d], fn [x, y, z, t], fn [x, y, z, t]]) (r := fn [(Ed.pe x y x y) * (Ed.pf z t z t), (Ed.pg z t z t) * (Ed.ph x y x y), (Ed.pf z t z t) * (Ed.pg z t z t), (Ed.pe x y x y) * (Ed.ph x y x y)]) (fun _ => rfl) rfl (⟨_, _, _, _, _, _, _, _, rfl, rfl⟩) ?_
      refine vc_isAgg rfl rfl rfl ?_
      refine vc_quoI (x := j) (y := 64) (fun _ => rfl) (fun _ => rfl) (by omega) (by decide) rfl ?_
      refine vc_bnd (i := j / 64) rfl (by omega) ?_
      refine vc_getx (i := j / 64) (cl := wds 4 e) (by exact fun _ => rfl) (by exact fun _ => rfl) (by rw [Nat.mul_one]; exact word_get e (j / 64) (by omega)) rfl ?_
      refine vc_remI (x := j) (y := 64) (fun _ => rfl) (fun _ => rfl) (by decide) rfl ?_
      refine vc_shr64 (x := e / 2 ^ (64 * (j / 64)) % 18446744073709551616) (y := j % 64) (by exact fun _ => rfl) (by exact fun _ => rfl) rfl (by omega) fun w1 hw1 => ?_
      refine vc_and64 (x := w1) (y := 1) (by exact fun _ => rfl) (by exact fun _ => rfl) rfl (by rw [hw1]; exact Nat.lt_of_le_of_lt (Nat.div_le_self _ _) (Nat.mod_lt _ (by decide))) (by decide) fun w2 hw2 => ?_
      rw [Nat.and_one_is_mod, hw1, bw] at hw2
      refine vc_eql64 (x := w2) (y := 1) (by exact fun _ => rfl) (by exact fun _ => rfl) rfl fun w3 hw3 => ?_
      refine vc_isBool (by show Bo w3 = _; rw [hw3, hw2]; simp [Bo, hb]) ?_
      refine vc_subI (x := j) (y := 1) (by exact fun _ => rfl) (by exact fun _ => rfl) (by omega) (by decide) rfl ?_
      refine vc_nil ?_
      refine JF.nor (by kernel_rfl) ?_
      cases j with
      | zero =>
        exact Jd.next (m := 2) (τ := [.at (.one (.var 16)), .at (.one (.var 9))]) (π := []) (0) (by kernel_rfl) (by kernel_rfl) (by kernel_rfl) (by omega) (.inr ⟨_, _, _, _, rfl, by have hk := k2 hb; rw [show e / 2 ^ 0 = e by simp] at hk; rw [← hk]; exact hr.add hr, rfl⟩)
      | succ j =>
        exact Jd.next (m := 2) (τ := [.at (.one (.var 16)), .at (.one (.var 9))]) (π := []) (j + 1) (by kernel_rfl) (by kernel_rfl) (by kernel_rfl) (by omega) (.inl ⟨j, _, _, _, _, by omega, rfl, by rw [← k2 hb]; exact hr.add hr, by show [Value.int .i64 (((j + 1 : Nat) : Int) - (1 : Nat)), _] = _; rw [show ((j + 1 : Nat) : Int) - (1 : Nat) = (j : Int) by omega]; rfl⟩)
  · refine Jd.go2 (E := E_timesP_3) 8 [fn [x, y, z, t], Value.int .i64 (-1), fn [p.x, p.y, 1, p.x * p.y], fn [((0 : Pt)).x, ((0 : Pt)).y, 1, ((0 : Pt)).x * ((0 : Pt)).y], PV ((0 : Pt)), fn [Ed.d + Ed.d], nums [e], PV p] rfl rfl rfl [.bin .geq 3 (.at (.one (.var 6))) (.at (.one (.lit (.int .i64 0)))) 8, .isBool 8 false] (by kernel_rfl) ?_
    refine vc_bin (k := .i64) (x := -1) (y := 0) (r := Bo false) (by exact fun _ => rfl) (by exact fun _ => rfl) rfl rfl ?_
    refine vc_isBool (rfl) ?_
    refine vc_nil ?_
    refine JF.exit (n := 0) (by kernel_rfl) ?_
    refine Jd.out (by simp) ?_
    refine Jd.go2 (E := E_timesP_4) 9 [Bo false, fn [x, y, z, t], Value.int .i64 (-1), fn [p.x, p.y, 1, p.x * p.y], fn [((0 : Pt)).x, ((0 : Pt)).y, 1, ((0 : Pt)).x * ((0 : Pt)).y], PV ((0 : Pt)), fn [Ed.d + Ed.d], nums [e], PV p] rfl rfl rfl [.isAgg 7 16, .call 61 ⟨none, [.one .v], .two (.one .v)⟩ [.one (.a (.var 7))] 9, .isAgg 9 8] (by kernel_rfl) ?_
    refine vc_isAgg rfl rfl rfl ?_
    refine vc_call c_near (ds := [fn [x, y, z, t]]) (r := PV ((Ed.smul e p))) (fun _ => rfl) rfl (⟨_, _, _, _, _, hr, rfl, rfl⟩) ?_
    refine vc_isAgg rfl rfl rfl ?_
    refine vc_nil ?_
    refine JF.ret (by kernel_rfl) ?_
    refine hE.fin3 10 [PV ((Ed.smul e p)), Bo false, fn [x, y, z, t], Value.int .i64 (-1), fn [p.x, p.y, 1, p.x * p.y], fn [((0 : Pt)).x, ((0 : Pt)).y, 1, ((0 : Pt)).x * ((0 : Pt)).y], PV ((0 : Pt)), fn [Ed.d + Ed.d], nums [e], PV p] rfl rfl (cm := [.isAgg 9 8]) (ds := [.v (.at (.one (.var 9)))]) (by kernel_rfl) rfl (.inr rfl) ?_
    refine vc_isAgg rfl rfl rfl ?_
    refine vc_nil ?_
    show PV ((Ed.smul e p)) = _
    rfl

noncomputable def E_smallP_0 : Option Ran := ex1 (cfg 8) (fun _ => none) 0 4000 30000 1 (inSt (v1v)) [.c (bodyOf Try.f39)] .nor
theorem c_smallP : Ctr Try.prog glb0 39 v1v ΦsmallP := by
  refine ctr (C := cfg 8) mixed ti_ok Try.func39 (by kernel_rfl) ?_
  rintro ds r X Q hl ⟨p, rfl, rfl⟩ hE
  refine Jd.go2 (E := E_smallP_0) 1 [PV p] rfl rfl rfl [.isAgg 0 8, .isAgg 0 8, .call 28 ⟨none, [.one .v, .one .v], .two (.one .v)⟩ [.one (.a (.var 0)), .agg [.a (.lit (.int .u64 8)), .a (.lit (.int .u64 0)), .a (.lit (.int .u64 0)), .a (.lit (.int .u64 0))]] 1, .call 36 ⟨none, [], .two (.one .v)⟩ [] 2, .bin .eql 28 (.at (.one (.var 1))) (.at (.one (.var 2))) 3] (by kernel_rfl) ?_
  refine vc_isAgg rfl rfl rfl ?_
  refine vc_isAgg rfl rfl rfl ?_
  refine vc_call c_timesP (ds := [PV p, nums [8]]) (r := PV (Ed.smul 8 p)) (fun _ => rfl) rfl (⟨_, _, (by decide), rfl, rfl⟩) ?_
  refine vc_call c_naught (ds := []) (r := PV ((0 : Pt))) (fun _ => rfl) rfl (⟨rfl, rfl⟩) ?_
  refine vc_eqlN (m := 2) eqT28 (xs := [(Ed.smul 8 p).x.val, (Ed.smul 8 p).y.val]) (ys := [((0 : Pt)).x.val, ((0 : Pt)).y.val]) (by exact fun _ => rfl) (by exact fun _ => rfl) rfl rfl (bnd2 (F_lt _) (F_lt _)) (bnd2 (F_lt _) (F_lt _)) rfl ?_
  refine vc_nil ?_
  refine JF.ret (by kernel_rfl) ?_
  refine hE.fin3 4 [Bo (decide ([(Ed.smul 8 p).x.val, (Ed.smul 8 p).y.val] = [((0 : Pt)).x.val, ((0 : Pt)).y.val])), PV ((0 : Pt)), PV (Ed.smul 8 p), PV p] rfl rfl (cm := []) (ds := [.v (.at (.one (.var 3)))]) (by kernel_rfl) rfl (.inr rfl) ?_
  refine vc_nil ?_
  show Bo (decide ([(Ed.smul 8 p).x.val, (Ed.smul 8 p).y.val] = [((0 : Pt)).x.val, ((0 : Pt)).y.val])) = _
  rw [PV_dec]

end Go.Proofs.Ytpeafegfjhljmaa

/-
  Functions of the program: what each computes.
-/
open Go Go.Sx Go.Proofs
open Ed (F P inv pw Pt)
namespace Go.Proofs.Ytpeafegfjhljmaa
set_option maxRecDepth 100000
set_option maxHeartbeats 4000000
noncomputable def E_of_0 : Option Ran := ex1 (cfg 32) (fun n => if n = 2 then some false else none) 0 4000 30000 1 (inSt ((s1t 1))) [.c (bodyOf Try.f16)] .nor
def T_of : St := ⟨[(13, .at (.one (.var 4))), (12, .at (.one (.var 3))), (11, .at (.one (.sl 10000))), (4, .at (.one (.ptr 30020 0))), (7, .at (.one (.sl 10000))), (3, .at (.one (.lit (.int .i64 0)))), (2, .at (.one (.ptr 30000 0))), (0, .at (.one (.sl 10000)))], [(30020, some ⟨.lst [.part 5 0 4, .part 5 1 4, .part 5 2 4, .part 5 3 4], 0, none⟩), (30000, some ⟨.lst [.lit (.int .u64 0), .lit (.int .u64 0), .lit (.int .u64 0), .lit (.int .u64 0)], 0, none⟩), (10000, some ⟨.all 0, 1, none⟩)], [(30020, true), (30000, true)]⟩
noncomputable def E_of_1 : Option Ran := ex1 (cfg 32) (fun n => if n = 6 then some true else none) 0 4000 50000 6 (T_of) [.c (codeF E_of_0)] .nor
noncomputable def E_of_2 : Option Ran := ex1 (cfg 32) (fun n => if n = 6 then some false else none) 0 4000 70000 6 (T_of) [.c (codeF E_of_0)] .nor
noncomputable def E_of_3 : Option Ran := ex1 (cfg 32) (fun _ => none) 0 4000 90000 7 (stOf E_of_2) (kontF E_of_0) (.exit 0)
noncomputable def E_of_4 : Option Ran := ex1 (cfg 32) (fun n => if n = 2 then some true else none) 0 4000 110000 1 (inSt ((s1t 1))) [.c (bodyOf Try.f16)] .nor
theorem c_of : Ctr Try.prog glb0 16 (s1t 1) ΦOf := by
  refine ctr (C := cfg 32) mixed ti_ok Try.func16 (by kernel_rfl) ?_
  rintro ds r X Q hl ⟨l, hb, hn, rfl, rfl⟩ hE
  by_cases hl32 : l.length = 32
  · rw [if_pos hl32] at hE
    refine Jd.go2 (E := E_of_0) 1 [bts l] rfl rfl rfl [.len 0 1 1, .bin .neq 3 (.at (.one (.var 1))) (.at (.one (.lit (.int .i64 32)))) 2, .isBool 2 false, .len 0 1 3] (by kernel_rfl) ?_
    refine vc_len (k := l.length) (by exact fun _ => rfl) (by simp) rfl ?_
    refine vc_cmp (op := .neq) (x := l.length) (y := (32 : Nat)) (k := .i64) (t := !decide (l.length = 32)) (by exact fun _ => rfl) (by exact fun _ => rfl) rfl rfl ?_
    refine vc_isBool (by show Bo (!decide _) = _; rw [decide_eq_true hl32]; rfl) ?_
    refine vc_len (k := l.length) (by exact fun _ => rfl) (by simp) rfl ?_
    refine vc_nil ?_
    refine JF.loop (by kernel_rfl) ?_
    refine Jd.loop (T := T_of) (m := 2) (Inv := fun n xs => ∃ i, i ≤ 32 ∧ xs = [I i, nums [le (l.take i)]] ∧ n = 32 - i) (n0 := 32) (τ := [.at (.one (.lit (.int .i64 0))), .at (.agg [.lit (.int .u64 0), .lit (.int .u64 0), .lit (.int .u64 0), .lit (.int .u64 0)])]) (π := []) (by kernel_rfl) (by kernel_rfl) ?_ fun n xs hlen hI => ?_
    · exact ⟨0, by decide, by kernel_rfl, rfl⟩
    obtain ⟨i, hi, rfl, rfl⟩ := hI
    have hv := le_take_lt hb i (by omega)
    by_cases hlt : i < 32
    · have hli : i < l.length := by omega
      refine Jd.go2 (E := E_of_1) 6 [nums [le (l.take i)], I i, I l.length, Bo (!decide (l.length = 32)), I l.length, bts l] rfl rfl rfl [.bin .lss 3 (.at (.one (.var 4))) (.at (.one (.var 3))) 6, .isBool 6 true, .bndl 4 0 1, .getx (.all 0) 4 1 7, .bin .quo 3 (.at (.one (.var 4))) (.at (.one (.lit (.int .i64 8)))) 8, .bnd 8 4, .getx (.lst [.part 5 0 4, .part 5 1 4, .part 5 2 4, .part 5 3 4]) 8 1 9, .conv 5 24 (.at (.one (.var 7))) 10, .bin .rem 3 (.at (.one (.var 4))) (.at (.one (.lit (.int .i64 8)))) 11, .bin .mul 3 (.at (.one (.lit (.int .i64 8)))) (.at (.one (.var 11))) 12, .bin .shl 24 (.at (.one (.var 10))) (.at (.one (.var 12))) 13, .bin .or 24 (.at (.one (.var 9))) (.at (.one (.var 13))) 14, .bnd 8 4, .isOne (.var 14), .setx (.lst [.part 5 0 4, .part 5 1 4, .part 5 2 4, .part 5 3 4]) 8 1 (.var 14) 15, .isAgg 15 4, .bin .add 3 (.at (.one (.var 4))) (.at (.one (.lit (.int .i64 1)))) 16] (by kernel_rfl) ?_
      refine vc_cmp (op := .lss) (x := i) (y := l.length) (k := .i64) (t := decide (i < l.length)) (by exact fun _ => rfl) (by exact fun _ => rfl) rfl rfl ?_
      refine vc_isBool (by show Bo (decide _) = _; rw [decide_eq_true (by omega)]; rfl) ?_
      refine vc_bndl (i := i) rfl rfl (by simp; omega) ?_
      refine vc_getx (i := i) (cl := l.map (IK .u8)) (x := IK .u8 l[i]) (by exact fun _ => rfl) (by exact fun _ => rfl) (by simp [show i < l.length by omega]) rfl ?_
      refine vc_quoI (x := i) (y := 8) (fun _ => rfl) (fun _ => rfl) (by omega) (by decide) rfl ?_
      refine vc_bnd (i := i / 8) rfl (by omega) ?_
      refine vc_getx (i := i / 8) (cl := wds 4 (le (l.take i))) (by exact fun _ => rfl) (by exact fun _ => rfl) (by rw [Nat.mul_one]; exact word_get _ (i / 8) (by omega)) rfl ?_
      refine vc_conv_u64 (q := .u8) (x := l[i]) (by kernel_rfl) (by kernel_rfl) (by exact fun _ => rfl) (by have := hb _ (List.getElem_mem (show i < l.length by omega)); omega) rfl ?_
      refine vc_remI (x := i) (y := 8) (fun _ => rfl) (fun _ => rfl) (by decide) rfl ?_
      refine vc_mulI (x := 8) (y := (i % 8)) (fun _ => rfl) (fun _ => rfl) (by omega) rfl ?_
      refine vc_shl64 (x := l[i]) (y := 8 * (i % 8)) (by exact fun _ => rfl) (by exact fun _ => rfl) rfl (by omega) fun w1 hw1 => ?_
      refine vc_or64 (x := le (l.take i) / 2 ^ (64 * (i / 8)) % 18446744073709551616) (y := w1) (by exact fun _ => rfl) (by exact fun _ => rfl) rfl (Nat.mod_lt _ (by decide)) (by rw [hw1]; exact Nat.mod_lt _ (by decide)) fun w2 hw2 => ?_
      refine vc_bnd (i := i / 8) rfl (by omega) ?_
      refine vc_isOne rfl ?_
      refine vc_setx (i := i / 8) (cl := wds 4 (le (l.take i))) (y := U w2) (by exact fun _ => rfl) (by exact fun _ => rfl) (by exact fun _ => rfl) (by show i / 8 * 1 < 4; omega) rfl ?_
      rw [hw2, hw1, set_word _ _ i hv (hb _ (List.getElem_mem (show i < l.length by omega))) hlt, ← le_take l i (by omega)]
      refine vc_isAgg rfl rfl rfl ?_
      refine vc_addI (x := i) (y := 1) (fun _ => rfl) (fun _ => rfl) (by omega) rfl ?_
      refine vc_nil ?_
      refine JF.nor (by kernel_rfl) ?_
      exact Jd.next (m := 2) (τ := [.at (.one (.var 16)), .at (.one (.var 15))]) (π := []) (32 - (i + 1)) (by kernel_rfl) (by kernel_rfl) (by kernel_rfl) (by omega) (⟨i + 1, by omega, rfl, rfl⟩)
    · refine Jd.go2 (E := E_of_2) 6 [nums [le (l.take i)], I i, I l.length, Bo (!decide (l.length = 32)), I l.length, bts l] rfl rfl rfl [.bin .lss 3 (.at (.one (.var 4))) (.at (.one (.var 3))) 6, .isBool 6 false] (by kernel_rfl) ?_
      refine vc_cmp (op := .lss) (x := i) (y := l.length) (k := .i64) (t := decide (i < l.length)) (by exact fun _ => rfl) (by exact fun _ => rfl) rfl rfl ?_
      refine vc_isBool (by show Bo (decide _) = _; rw [decide_eq_false (by omega)]; rfl) ?_
      refine vc_nil ?_
      refine JF.exit (n := 0) (by kernel_rfl) ?_
      refine Jd.out (by simp) ?_
      refine Jd.go2 (E := E_of_3) 7 [Bo (decide (i < l.length)), nums [le (l.take i)], I i, I l.length, Bo (!decide (l.length = 32)), I l.length, bts l] rfl rfl rfl [.isAgg 5 4, .isAgg 5 4] (by kernel_rfl) ?_
      refine vc_isAgg rfl rfl rfl ?_
      refine vc_isAgg rfl rfl rfl ?_
      refine vc_nil ?_
      refine JF.ret (by kernel_rfl) ?_
      refine hE.fin3 7 [Bo (decide (i < l.length)), nums [le (l.take i)], I i, I l.length, Bo (!decide (l.length = 32)), I l.length, bts l] rfl rfl (cm := [.isAgg 5 4]) (ds := [.v (.at (.one (.var 5))), .v (.at (.one (.lit (.int .i64 0))))]) (by kernel_rfl) rfl (.inr rfl) ?_
      refine vc_isAgg rfl rfl rfl ?_
      refine vc_nil ?_
      show Value.tuple #[nums [le (l.take i)], I 0] = _
      rw [List.take_of_length_le (by omega)]
  · rw [if_neg hl32] at hE
    refine Jd.go2 (E := E_of_4) 1 [bts l] rfl rfl rfl [.len 0 1 1, .bin .neq 3 (.at (.one (.var 1))) (.at (.one (.lit (.int .i64 32)))) 2, .isBool 2 true] (by kernel_rfl) ?_
    refine vc_len (k := l.length) (by exact fun _ => rfl) (by simp) rfl ?_
    refine vc_cmp (op := .neq) (x := l.length) (y := (32 : Nat)) (k := .i64) (t := !decide (l.length = 32)) (by exact fun _ => rfl) (by exact fun _ => rfl) rfl rfl ?_
    refine vc_isBool (by show Bo (!decide _) = _; rw [decide_eq_false hl32]; rfl) ?_
    refine vc_nil ?_
    refine JF.ret (by kernel_rfl) ?_
    refine hE.fin3 3 [Bo (!decide (l.length = 32)), I l.length, bts l] rfl rfl (cm := []) (ds := [.v (.at (.agg [.lit (.int .u64 0), .lit (.int .u64 0), .lit (.int .u64 0), .lit (.int .u64 0)])), .v (.at (.one (.lit (.int .i64 3))))]) (by kernel_rfl) rfl (.inr rfl) ?_
    refine vc_nil ?_
    show Value.tuple #[nums [0], I 3] = _
    kernel_rfl

noncomputable def E_bytes_0 : Option Ran := ex1 (cfg 22) (fun _ => none) 33 4000 30000 1 (inSt (v1s)) [.c (bodyOf Try.f37)] .nor
theorem c_bytes : Ctr Try.prog glb0 37 v1s ΦBytes := by
  refine ctr (C := cfg 22) mixed ti_ok Try.func37 (by kernel_rfl) ?_
  rintro ds r X Q hl ⟨x, hx, rfl, rfl⟩ hE
  refine Jd.go2 (E := E_bytes_0) 1 [nums [x]] rfl rfl rfl [.isAgg 0 4, .bin .shr 24 (.at (.one (.part 0 0 4))) (.at (.one (.lit (.int .i64 0)))) 1, .conv 24 5 (.at (.one (.var 1))) 2, .isOne (.var 2), .bin .shr 24 (.at (.one (.part 0 0 4))) (.at (.one (.lit (.int .i64 8)))) 3, .conv 24 5 (.at (.one (.var 3))) 4, .isOne (.var 4), .bin .shr 24 (.at (.one (.part 0 0 4))) (.at (.one (.lit (.int .i64 16)))) 5, .conv 24 5 (.at (.one (.var 5))) 6, .isOne (.var 6), .bin .shr 24 (.at (.one (.part 0 0 4))) (.at (.one (.lit (.int .i64 24)))) 7, .conv 24 5 (.at (.one (.var 7))) 8, .isOne (.var 8), .bin .shr 24 (.at (.one (.part 0 0 4))) (.at (.one (.lit (.int .i64 32)))) 9, .conv 24 5 (.at (.one (.var 9))) 10, .isOne (.var 10), .bin .shr 24 (.at (.one (.part 0 0 4))) (.at (.one (.lit (.int .i64 40)))) 11, .conv 24 5 (.at (.one (.var 11))) 12, .isOne (.var 12), .bin .shr 24 (.at (.one (.part 0 0 4))) (.at (.one (.lit (.int .i64 48)))) 13, .conv 24 5 (.at (.one (.var 13))) 14, .isOne (.var 14), .bin .shr 24 (.at (.one (.part 0 0 4))) (.at (.one (.lit (.int .i64 56)))) 15, .conv 24 5 (.at (.one (.var 15))) 16, .isOne (.var 16), .bin .shr 24 (.at (.one (.part 0 1 4))) (.at (.one (.lit (.int .i64 0)))) 17, .conv 24 5 (.at (.one (.var 17))) 18, .isOne (.var 18), .bin .shr 24 (.at (.one (.part 0 1 4))) (.at (.one (.lit (.int .i64 8)))) 19, .conv 24 5 (.at (.one (.var 19))) 20, .isOne (.var 20), .bin .shr 24 (.at (.one (.part 0 1 4))) (.at (.one (.lit (.int .i64 16)))) 21, .conv 24 5 (.at (.one (.var 21))) 22, .isOne (.var 22), .bin .shr 24 (.at (.one (.part 0 1 4))) (.at (.one (.lit (.int .i64 24)))) 23, .conv 24 5 (.at (.one (.var 23))) 24, .isOne (.var 24), .bin .shr 24 (.at (.one (.part 0 1 4))) (.at (.one (.lit (.int .i64 32)))) 25, .conv 24 5 (.at (.one (.var 25))) 26, .isOne (.var 26), .bin .shr 24 (.at (.one (.part 0 1 4))) (.at (.one (.lit (.int .i64 40)))) 27, .conv 24 5 (.at (.one (.var 27))) 28, .isOne (.var 28), .bin .shr 24 (.at (.one (.part 0 1 4))) (.at (.one (.lit (.int .i64 48)))) 29, .conv 24 5 (.at (.one (.var 29))) 30, .isOne (.var 30), .bin .shr 24 (.at (.one (.part 0 1 4))) (.at (.one (.lit (.int .i64 56)))) 31, .conv 24 5 (.at (.one (.var 31))) 32, .isOne (.var 32), .bin .shr 24 (.at (.one (.part 0 2 4))) (.at (.one (.lit (.int .i64 0)))) 33, .conv 24 5 (.at (.one (.var 33))) 34, .isOne (.var 34), .bin .shr 24 (.at (.one (.part 0 2 4))) (.at (.one (.lit (.int .i64 8)))) 35, .conv 24 5 (.at (.one (.var 35))) 36, .isOne (.var 36), .bin .shr 24 (.at (.one (.part 0 2 4))) (.at (.one (.lit (.int .i64 16)))) 37, .conv 24 5 (.at (.one (.var 37))) 38, .isOne (.var 38), .bin .shr 24 (.at (.one (.part 0 2 4))) (.at (.one (.lit (.int .i64 24)))) 39, .conv 24 5 (.at (.one (.var 39))) 40, .isOne (.var 40), .bin .shr 24 (.at (.one (.part 0 2 4))) (.at (.one (.lit (.int .i64 32)))) 41, .conv 24 5 (.at (.one (.var 41))) 42, .isOne (.var 42), .bin .shr 24 (.at (.one (.part 0 2 4))) (.at (.one (.lit (.int .i64 40)))) 43, .conv 24 5 (.at (.one (.var 43))) 44, .isOne (.var 44), .bin .shr 24 (.at (.one (.part 0 2 4))) (.at (.one (.lit (.int .i64 48)))) 45, .conv 24 5 (.at (.one (.var 45))) 46, .isOne (.var 46), .bin .shr 24 (.at (.one (.part 0 2 4))) (.at (.one (.lit (.int .i64 56)))) 47, .conv 24 5 (.at (.one (.var 47))) 48, .isOne (.var 48), .bin .shr 24 (.at (.one (.part 0 3 4))) (.at (.one (.lit (.int .i64 0)))) 49, .conv 24 5 (.at (.one (.var 49))) 50, .isOne (.var 50), .bin .shr 24 (.at (.one (.part 0 3 4))) (.at (.one (.lit (.int .i64 8)))) 51, .conv 24 5 (.at (.one (.var 51))) 52, .isOne (.var 52), .bin .shr 24 (.at (.one (.part 0 3 4))) (.at (.one (.lit (.int .i64 16)))) 53, .conv 24 5 (.at (.one (.var 53))) 54, .isOne (.var 54), .bin .shr 24 (.at (.one (.part 0 3 4))) (.at (.one (.lit (.int .i64 24)))) 55, .conv 24 5 (.at (.one (.var 55))) 56, .isOne (.var 56), .bin .shr 24 (.at (.one (.part 0 3 4))) (.at (.one (.lit (.int .i64 32)))) 57, .conv 24 5 (.at (.one (.var 57))) 58, .isOne (.var 58), .bin .shr 24 (.at (.one (.part 0 3 4))) (.at (.one (.lit (.int .i64 40)))) 59, .conv 24 5 (.at (.one (.var 59))) 60, .isOne (.var 60), .bin .shr 24 (.at (.one (.part 0 3 4))) (.at (.one (.lit (.int .i64 48)))) 61, .conv 24 5 (.at (.one (.var 61))) 62, .isOne (.var 62), .bin .shr 24 (.at (.one (.part 0 3 4))) (.at (.one (.lit (.int .i64 56)))) 63, .conv 24 5 (.at (.one (.var 63))) 64, .isOne (.var 64)] (by kernel_rfl) ?_
  refine vc_isAgg rfl rfl rfl ?_
  refine vc_shr64 (x := x % 18446744073709551616) (y := 0) (by exact fun _ => rfl) (by exact fun _ => rfl) rfl (by decide) fun v1 h1 => ?_
  refine vc_conv_u8 (q := .u64) (x := v1) (by kernel_rfl) (by kernel_rfl) (by exact fun _ => rfl) rfl ?_
  rw [show v1 % 256 = x % 256 by rw [h1]; omega]
  refine vc_isOne rfl ?_
  refine vc_shr64 (x := x % 18446744073709551616) (y := 8) (by exact fun _ => rfl) (by exact fun _ => rfl) rfl (by decide) fun v3 h3 => ?_
  refine vc_conv_u8 (q := .u64) (x := v3) (by kernel_rfl) (by kernel_rfl) (by exact fun _ => rfl) rfl ?_
  rw [show v3 % 256 = x / 256 % 256 by rw [h3]; omega]
  refine vc_isOne rfl ?_
  refine vc_shr64 (x := x % 18446744073709551616) (y := 16) (by exact fun _ => rfl) (by exact fun _ => rfl) rfl (by decide) fun v5 h5 => ?_
  refine vc_conv_u8 (q := .u64) (x := v5) (by kernel_rfl) (by kernel_rfl) (by exact fun _ => rfl) rfl ?_
  rw [show v5 % 256 = x / 65536 % 256 by rw [h5]; omega]
  refine vc_isOne rfl ?_
  refine vc_shr64 (x := x % 18446744073709551616) (y := 24) (by exact fun _ => rfl) (by exact fun _ => rfl) rfl (by decide) fun v7 h7 => ?_
  refine vc_conv_u8 (q := .u64) (x := v7) (by kernel_rfl) (by kernel_rfl) (by exact fun _ => rfl) rfl ?_
  rw [show v7 % 256 = x / 16777216 % 256 by rw [h7]; omega]
  refine vc_isOne rfl ?_
  refine vc_shr64 (x := x % 18446744073709551616) (y := 32) (by exact fun _ => rfl) (by exact fun _ => rfl) rfl (by decide) fun v9 h9 => ?_
  refine vc_conv_u8 (q := .u64) (x := v9) (by kernel_rfl) (by kernel_rfl) (by exact fun _ => rfl) rfl ?_
  rw [show v9 % 256 = x / 4294967296 % 256 by rw [h9]; omega]
  refine vc_isOne rfl ?_
  refine vc_shr64 (x := x % 18446744073709551616) (y := 40) (by exact fun _ => rfl) (by exact fun _ => rfl) rfl (by decide) fun v11 h11 => ?_
  refine vc_conv_u8 (q := .u64) (x := v11) (by kernel_rfl) (by kernel_rfl) (by exact fun _ => rfl) rfl ?_
  rw [show v11 % 256 = x / 1099511627776 % 256 by rw [h11]; omega]
  refine vc_isOne rfl ?_
  refine vc_shr64 (x := x % 18446744073709551616) (y := 48) (by exact fun _ => rfl) (by exact fun _ => rfl) rfl (by decide) fun v13 h13 => ?_
  refine vc_conv_u8 (q := .u64) (x := v13) (by kernel_rfl) (by kernel_rfl) (by exact fun _ => rfl) rfl ?_
  rw [show v13 % 256 = x / 281474976710656 % 256 by rw [h13]; omega]
  refine vc_isOne rfl ?_
  refine vc_shr64 (x := x % 18446744073709551616) (y := 56) (by exact fun _ => rfl) (by exact fun _ => rfl) rfl (by decide) fun v15 h15 => ?_
  refine vc_conv_u8 (q := .u64) (x := v15) (by kernel_rfl) (by kernel_rfl) (by exact fun _ => rfl) rfl ?_
  rw [show v15 % 256 = x / 72057594037927936 % 256 by rw [h15]; omega]
  refine vc_isOne rfl ?_
  refine vc_shr64 (x := x / 18446744073709551616 % 18446744073709551616) (y := 0) (by exact fun _ => rfl) (by exact fun _ => rfl) rfl (by decide) fun v17 h17 => ?_
  refine vc_conv_u8 (q := .u64) (x := v17) (by kernel_rfl) (by kernel_rfl) (by exact fun _ => rfl) rfl ?_
  rw [show v17 % 256 = x / 18446744073709551616 % 256 by rw [h17]; omega]
  refine vc_isOne rfl ?_
  refine vc_shr64 (x := x / 18446744073709551616 % 18446744073709551616) (y := 8) (by exact fun _ => rfl) (by exact fun _ => rfl) rfl (by decide) fun v19 h19 => ?_
  refine vc_conv_u8 (q := .u64) (x := v19) (by kernel_rfl) (by kernel_rfl) (by exact fun _ => rfl) rfl ?_
  rw [show v19 % 256 = x / 4722366482869645213696 % 256 by rw [h19]; omega]
  refine vc_isOne rfl ?_
  refine vc_shr64 (x := x / 18446744073709551616 % 18446744073709551616) (y := 16) (by exact fun _ => rfl) (by exact fun _ => rfl) rfl (by decide) fun v21 h21 => ?_
  refine vc_conv_u8 (q := .u64) (x := v21) (by kernel_rfl) (by kernel_rfl) (by exact fun _ => rfl) rfl ?_
  rw [show v21 % 256 = x / 1208925819614629174706176 % 256 by rw [h21]; omega]
  refine vc_isOne rfl ?_
  refine vc_shr64 (x := x / 18446744073709551616 % 18446744073709551616) (y := 24) (by exact fun _ => rfl) (by exact fun _ => rfl) rfl (by decide) fun v23 h23 => ?_
  refine vc_conv_u8 (q := .u64) (x := v23) (by kernel_rfl) (by kernel_rfl) (by exact fun _ => rfl) rfl ?_
  rw [show v23 % 256 = x / 309485009821345068724781056 % 256 by rw [h23]; omega]
  refine vc_isOne rfl ?_
  refine vc_shr64 (x := x / 18446744073709551616 % 18446744073709551616) (y := 32) (by exact fun _ => rfl) (by exact fun _ => rfl) rfl (by decide) fun v25 h25 => ?_
  refine vc_conv_u8 (q := .u64) (x := v25) (by kernel_rfl) (by kernel_rfl) (by exact fun _ => rfl) rfl ?_
  rw [show v25 % 256 = x / 79228162514264337593543950336 % 256 by rw [h25]; omega]
  refine vc_isOne rfl ?_
  refine vc_shr64 (x := x / 18446744073709551616 % 18446744073709551616) (y := 40) (by exact fun _ => rfl) (by exact fun _ => rfl) rfl (by decide) fun v27 h27 => ?_
  refine vc_conv_u8 (q := .u64) (x := v27) (by kernel_rfl) (by kernel_rfl) (by exact fun _ => rfl) rfl ?_
  rw [show v27 % 256 = x / 20282409603651670423947251286016 % 256 by rw [h27]; omega]
  refine vc_isOne rfl ?_
  refine vc_shr64 (x := x / 18446744073709551616 % 18446744073709551616) (y := 48) (by exact fun _ => rfl) (by exact fun _ => rfl) rfl (by decide) fun v29 h29 => ?_
  refine vc_conv_u8 (q := .u64) (x := v29) (by kernel_rfl) (by kernel_rfl) (by exact fun _ => rfl) rfl ?_
  rw [show v29 % 256 = x / 5192296858534827628530496329220096 % 256 by rw [h29]; omega]
  refine vc_isOne rfl ?_
  refine vc_shr64 (x := x / 18446744073709551616 % 18446744073709551616) (y := 56) (by exact fun _ => rfl) (by exact fun _ => rfl) rfl (by decide) fun v31 h31 => ?_
  refine vc_conv_u8 (q := .u64) (x := v31) (by kernel_rfl) (by kernel_rfl) (by exact fun _ => rfl) rfl ?_
  rw [show v31 % 256 = x / 1329227995784915872903807060280344576 % 256 by rw [h31]; omega]
  refine vc_isOne rfl ?_
  refine vc_shr64 (x := x / 18446744073709551616 / 18446744073709551616 % 18446744073709551616) (y := 0) (by exact fun _ => rfl) (by exact fun _ => rfl) rfl (by decide) fun v33 h33 => ?_
  refine vc_conv_u8 (q := .u64) (x := v33) (by kernel_rfl) (by kernel_rfl) (by exact fun _ => rfl) rfl ?_
  rw [show v33 % 256 = x / 340282366920938463463374607431768211456 % 256 by rw [h33]; omega]
  refine vc_isOne rfl ?_
  refine vc_shr64 (x := x / 18446744073709551616 / 18446744073709551616 % 18446744073709551616) (y := 8) (by exact fun _ => rfl) (by exact fun _ => rfl) rfl (by decide) fun v35 h35 => ?_
  refine vc_conv_u8 (q := .u64) (x := v35) (by kernel_rfl) (by kernel_rfl) (by exact fun _ => rfl) rfl ?_
  rw [show v35 % 256 = x / 87112285931760246646623899502532662132736 % 256 by rw [h35]; omega]
  refine vc_isOne rfl ?_
  refine vc_shr64 (x := x / 18446744073709551616 / 18446744073709551616 % 18446744073709551616) (y := 16) (by exact fun _ => rfl) (by exact fun _ => rfl) rfl (by decide) fun v37 h37 => ?_
  refine vc_conv_u8 (q := .u64) (x := v37) (by kernel_rfl) (by kernel_rfl) (by exact fun _ => rfl) rfl ?_
  rw [show v37 % 256 = x / 22300745198530623141535718272648361505980416 % 256 by rw [h37]; omega]
  refine vc_isOne rfl ?_
  refine vc_shr64 (x := x / 18446744073709551616 / 18446744073709551616 % 18446744073709551616) (y := 24) (by exact fun _ => rfl) (by exact fun _ => rfl) rfl (by decide) fun v39 h39 => ?_
  refine vc_conv_u8 (q := .u64) (x := v39) (by kernel_rfl) (by kernel_rfl) (by exact fun _ => rfl) rfl ?_
  rw [show v39 % 256 = x / 5708990770823839524233143877797980545530986496 % 256 by rw [h39]; omega]
  refine vc_isOne rfl ?_
  refine vc_shr64 (x := x / 18446744073709551616 / 18446744073709551616 % 18446744073709551616) (y := 32) (by exact fun _ => rfl) (by exact fun _ => rfl) rfl (by decide) fun v41 h41 => ?_
  refine vc_conv_u8 (q := .u64) (x := v41) (by kernel_rfl) (by kernel_rfl) (by exact fun _ => rfl) rfl ?_
  rw [show v41 % 256 = x / 1461501637330902918203684832716283019655932542976 % 256 by rw [h41]; omega]
  refine vc_isOne rfl ?_
  refine vc_shr64 (x := x / 18446744073709551616 / 18446744073709551616 % 18446744073709551616) (y := 40) (by exact fun _ => rfl) (by exact fun _ => rfl) rfl (by decide) fun v43 h43 => ?_
  refine vc_conv_u8 (q := .u64) (x := v43) (by kernel_rfl) (by kernel_rfl) (by exact fun _ => rfl) rfl ?_
  rw [show v43 % 256 = x / 374144419156711147060143317175368453031918731001856 % 256 by rw [h43]; omega]
  refine vc_isOne rfl ?_
  refine vc_shr64 (x := x / 18446744073709551616 / 18446744073709551616 % 18446744073709551616) (y := 48) (by exact fun _ => rfl) (by exact fun _ => rfl) rfl (by decide) fun v45 h45 => ?_
  refine vc_conv_u8 (q := .u64) (x := v45) (by kernel_rfl) (by kernel_rfl) (by exact fun _ => rfl) rfl ?_
  rw [show v45 % 256 = x / 95780971304118053647396689196894323976171195136475136 % 256 by rw [h45]; omega]
  refine vc_isOne rfl ?_
  refine vc_shr64 (x := x / 18446744073709551616 / 18446744073709551616 % 18446744073709551616) (y := 56) (by exact fun _ => rfl) (by exact fun _ => rfl) rfl (by decide) fun v47 h47 => ?_
  refine vc_conv_u8 (q := .u64) (x := v47) (by kernel_rfl) (by kernel_rfl) (by exact fun _ => rfl) rfl ?_
  rw [show v47 % 256 = x / 24519928653854221733733552434404946937899825954937634816 % 256 by rw [h47]; omega]
  refine vc_isOne rfl ?_
  refine vc_shr64 (x := x / 18446744073709551616 / 18446744073709551616 / 18446744073709551616 % 18446744073709551616) (y := 0) (by exact fun _ => rfl) (by exact fun _ => rfl) rfl (by decide) fun v49 h49 => ?_
  refine vc_conv_u8 (q := .u64) (x := v49) (by kernel_rfl) (by kernel_rfl) (by exact fun _ => rfl) rfl ?_
  rw [show v49 % 256 = x / 6277101735386680763835789423207666416102355444464034512896 % 256 by rw [h49]; omega]
  refine vc_isOne rfl ?_
  refine vc_shr64 (x := x / 18446744073709551616 / 18446744073709551616 / 18446744073709551616 % 18446744073709551616) (y := 8) (by exact fun _ => rfl) (by exact fun _ => rfl) rfl (by decide) fun v51 h51 => ?_
  refine vc_conv_u8 (q := .u64) (x := v51) (by kernel_rfl) (by kernel_rfl) (by exact fun _ => rfl) rfl ?_
  rw [show v51 % 256 = x / 1606938044258990275541962092341162602522202993782792835301376 % 256 by rw [h51]; omega]
  refine vc_isOne rfl ?_
  refine vc_shr64 (x := x / 18446744073709551616 / 18446744073709551616 / 18446744073709551616 % 18446744073709551616) (y := 16) (by exact fun _ => rfl) (by exact fun _ => rfl) rfl (by decide) fun v53 h53 => ?_
  refine vc_conv_u8 (q := .u64) (x := v53) (by kernel_rfl) (by kernel_rfl) (by exact fun _ => rfl) rfl ?_
  rw [show v53 % 256 = x / 411376139330301510538742295639337626245683966408394965837152256 % 256 by rw [h53]; omega]
  refine vc_isOne rfl ?_
  refine vc_shr64 (x := x / 18446744073709551616 / 18446744073709551616 / 18446744073709551616 % 18446744073709551616) (y := 24) (by exact fun _ => rfl) (by exact fun _ => rfl) rfl (by decide) fun v55 h55 => ?_
  refine vc_conv_u8 (q := .u64) (x := v55) (by kernel_rfl) (by kernel_rfl) (by exact fun _ => rfl) rfl ?_
  rw [show v55 % 256 = x / 105312291668557186697918027683670432318895095400549111254310977536 % 256 by rw [h55]; omega]
  refine vc_isOne rfl ?_
  refine vc_shr64 (x := x / 18446744073709551616 / 18446744073709551616 / 18446744073709551616 % 18446744073709551616) (y := 32) (by exact fun _ => rfl) (by exact fun _ => rfl) rfl (by decide) fun v57 h57 => ?_
  refine vc_conv_u8 (q := .u64) (x := v57) (by kernel_rfl) (by kernel_rfl) (by exact fun _ => rfl) rfl ?_
  rw [show v57 % 256 = x / 26959946667150639794667015087019630673637144422540572481103610249216 % 256 by rw [h57]; omega]
  refine vc_isOne rfl ?_
  refine vc_shr64 (x := x / 18446744073709551616 / 18446744073709551616 / 18446744073709551616 % 18446744073709551616) (y := 40) (by exact fun _ => rfl) (by exact fun _ => rfl) rfl (by decide) fun v59 h59 => ?_
  refine vc_conv_u8 (q := .u64) (x := v59) (by kernel_rfl) (by kernel_rfl) (by exact fun _ => rfl) rfl ?_
  rw [show v59 % 256 = x / 6901746346790563787434755862277025452451108972170386555162524223799296 % 256 by rw [h59]; omega]
  refine vc_isOne rfl ?_
  refine vc_shr64 (x := x / 18446744073709551616 / 18446744073709551616 / 18446744073709551616 % 18446744073709551616) (y := 48) (by exact fun _ => rfl) (by exact fun _ => rfl) rfl (by decide) fun v61 h61 => ?_
  refine vc_conv_u8 (q := .u64) (x := v61) (by kernel_rfl) (by kernel_rfl) (by exact fun _ => rfl) rfl ?_
  rw [show v61 % 256 = x / 1766847064778384329583297500742918515827483896875618958121606201292619776 % 256 by rw [h61]; omega]
  refine vc_isOne rfl ?_
  refine vc_shr64 (x := x / 18446744073709551616 / 18446744073709551616 / 18446744073709551616 % 18446744073709551616) (y := 56) (by exact fun _ => rfl) (by exact fun _ => rfl) rfl (by decide) fun v63 h63 => ?_
  refine vc_conv_u8 (q := .u64) (x := v63) (by kernel_rfl) (by kernel_rfl) (by exact fun _ => rfl) rfl ?_
  rw [show v63 % 256 = x / 452312848583266388373324160190187140051835877600158453279131187530910662656 % 256 by rw [h63]; omega]
  refine vc_isOne rfl ?_
  refine vc_nil ?_
  refine JF.ret (by kernel_rfl) ?_
  refine hE.fin3 65 [IK .u8 (x / 452312848583266388373324160190187140051835877600158453279131187530910662656 % 256), U v63, IK .u8 (x / 1766847064778384329583297500742918515827483896875618958121606201292619776 % 256), U v61, IK .u8 (x / 6901746346790563787434755862277025452451108972170386555162524223799296 % 256), U v59, IK .u8 (x / 26959946667150639794667015087019630673637144422540572481103610249216 % 256), U v57, IK .u8 (x / 105312291668557186697918027683670432318895095400549111254310977536 % 256), U v55, IK .u8 (x / 411376139330301510538742295639337626245683966408394965837152256 % 256), U v53, IK .u8 (x / 1606938044258990275541962092341162602522202993782792835301376 % 256), U v51, IK .u8 (x / 6277101735386680763835789423207666416102355444464034512896 % 256), U v49, IK .u8 (x / 24519928653854221733733552434404946937899825954937634816 % 256), U v47, IK .u8 (x / 95780971304118053647396689196894323976171195136475136 % 256), U v45, IK .u8 (x / 374144419156711147060143317175368453031918731001856 % 256), U v43, IK .u8 (x / 1461501637330902918203684832716283019655932542976 % 256), U v41, IK .u8 (x / 5708990770823839524233143877797980545530986496 % 256), U v39, IK .u8 (x / 22300745198530623141535718272648361505980416 % 256), U v37, IK .u8 (x / 87112285931760246646623899502532662132736 % 256), U v35, IK .u8 (x / 340282366920938463463374607431768211456 % 256), U v33, IK .u8 (x / 1329227995784915872903807060280344576 % 256), U v31, IK .u8 (x / 5192296858534827628530496329220096 % 256), U v29, IK .u8 (x / 20282409603651670423947251286016 % 256), U v27, IK .u8 (x / 79228162514264337593543950336 % 256), U v25, IK .u8 (x / 309485009821345068724781056 % 256), U v23, IK .u8 (x / 1208925819614629174706176 % 256), U v21, IK .u8 (x / 4722366482869645213696 % 256), U v19, IK .u8 (x / 18446744073709551616 % 256), U v17, IK .u8 (x / 72057594037927936 % 256), U v15, IK .u8 (x / 281474976710656 % 256), U v13, IK .u8 (x / 1099511627776 % 256), U v11, IK .u8 (x / 4294967296 % 256), U v9, IK .u8 (x / 16777216 % 256), U v7, IK .u8 (x / 65536 % 256), U v5, IK .u8 (x / 256 % 256), U v3, IK .u8 (x % 256), U v1, nums [x]] rfl rfl (cm := []) (ds := [.r (.lst [.var 2, .var 4, .var 6, .var 8, .var 10, .var 12, .var 14, .var 16, .var 18, .var 20, .var 22, .var 24, .var 26, .var 28, .var 30, .var 32, .var 34, .var 36, .var 38, .var 40, .var 42, .var 44, .var 46, .var 48, .var 50, .var 52, .var 54, .var 56, .var 58, .var 60, .var 62, .var 64])]) (by kernel_rfl) rfl (.inr rfl) ?_
  refine vc_nil ?_
  -- result: group [('var', '2'), ('var', '4'), ('var', '6'), ('var', '8'), ('var', '10'), ('var', '12'), ('var',
  rw [bytesOf32]
  rfl

noncomputable def E_bytesP_0 : Option Ran := ex1 (cfg 19) (fun _ => none) 0 4000 30000 1 (inSt (v1s)) [.c (bodyOf Try.f15)] .nor
theorem c_bytesP : Ctr Try.prog glb0 15 v1s ΦbytesP := by
  refine ctr (C := cfg 19) mixed ti_ok Try.func15 (by kernel_rfl) ?_
  rintro ds r X Q hl ⟨p, rfl, rfl⟩ hE
  have hy : p.y.val < 2 ^ 255 := Nat.lt_trans p.y.isLt (by decide)
  refine Jd.go2 (E := E_bytesP_0) 1 [PV p] rfl rfl rfl [.isAgg 0 8, .call 37 ⟨none, [.one .v], .two (.one (.s 1 5))⟩ [.agg [.a (.part 0 4 8), .a (.part 0 5 8), .a (.part 0 6 8), .a (.part 0 7 8)]] 1, .ltlen 31 1 1, .get (.all 1) 31 2, .bin .and 24 (.at (.one (.part 0 0 8))) (.at (.one (.lit (.int .u64 1)))) 3, .conv 24 5 (.at (.one (.var 3))) 4, .bin .shl 5 (.at (.one (.var 4))) (.at (.one (.lit (.int .u64 7)))) 5, .bin .or 5 (.at (.one (.var 2))) (.at (.one (.var 5))) 6, .ltlen 31 1 1, .isOne (.var 6), .set (.all 1) 31 (.var 6) 7] (by kernel_rfl) ?_
  refine vc_isAgg rfl rfl rfl ?_
  refine vc_call c_bytes (ds := [nums [p.y.val]]) (r := bts (bytesOf 32 p.y.val)) (fun _ => rfl) rfl (⟨_, (F_lt p.y), rfl, rfl⟩) ?_
  refine vc_ltlen rfl (by simp [bytesOf_len]) ?_
  refine vc_get (cl := (bytesOf 32 p.y.val).map (IK .u8)) (x := IK .u8 (p.y.val / 256 ^ 31 % 256)) (by exact fun _ => rfl) (by rw [List.getElem?_map, bytesOf_get 32 _ 31 (by decide)]; rfl) rfl ?_
  refine vc_and64 (x := p.x.val % 18446744073709551616) (y := 1) (by exact fun _ => rfl) (by exact fun _ => rfl) rfl (Nat.mod_lt _ (by decide)) (by decide) fun w1 hw1 => ?_
  rw [low_bit] at hw1
  refine vc_conv_u8 (q := .u64) (x := w1) (by kernel_rfl) (by kernel_rfl) (by exact fun _ => rfl) rfl ?_
  rw [show w1 % 256 = p.x.val % 2 by omega]
  refine vc_shl8 (x := p.x.val % 2) (y := 7) (by exact fun _ => rfl) (by exact fun _ => rfl) rfl (by decide) ?_
  refine vc_or8 (x := p.y.val / 256 ^ 31 % 256) (y := (p.x.val % 2) * 2 ^ 7 % 256) (by exact fun _ => rfl) (by exact fun _ => rfl) rfl (Nat.mod_lt _ (by decide)) (Nat.mod_lt _ (by decide)) ?_
  refine vc_ltlen rfl (by simp [bytesOf_len]) ?_
  refine vc_isOne rfl ?_
  refine vc_set (cl := (bytesOf 32 p.y.val).map (IK .u8)) (y := IK .u8 (p.y.val / 256 ^ 31 % 256 ||| (p.x.val % 2) * 2 ^ 7 % 256)) (by exact fun _ => rfl) (by exact fun _ => rfl) (by simp [bytesOf_len]) rfl ?_
  rw [← List.map_set, bytes_top _ _ hy (Nat.mod_lt _ (by decide))]
  refine vc_nil ?_
  refine JF.ret (by kernel_rfl) ?_
  refine hE.fin3 8 [bts (bytesOf 32 (p.y.val + 2 ^ 255 * (p.x.val % 2))), IK .u8 ((p.y.val / 256 ^ 31 % 256 ||| (p.x.val % 2) * 2 ^ 7 % 256)), IK .u8 ((p.x.val % 2) * 2 ^ 7 % 256), IK .u8 (p.x.val % 2), U w1, IK .u8 (p.y.val / 256 ^ 31 % 256), bts (bytesOf 32 p.y.val), PV p] rfl rfl (cm := []) (ds := [.r (.all 7)]) (by kernel_rfl) rfl (.inr rfl) ?_
  refine vc_nil ?_
  show bts (bytesOf 32 (p.y.val + 2 ^ 255 * (p.x.val % 2))) = _
  rfl

end Go.Proofs.Ytpeafegfjhljmaa

/-
  Functions of the program: what each computes.
-/
open Go Go.Sx Go.Proofs
open Ed (F P inv pw Pt)
namespace Go.Proofs.Ytpeafegfjhljmaa
set_option maxRecDepth 100000
set_option maxHeartbeats 4000000
noncomputable def E_readP_0 : Option Ran := ex1 (cfg 54) (fun n => if n = 4 then some false else if n = 10 then some false else if n = 14 then some false else if n = 6 then some true else if n = 15 then some true else none) 0 4000 30000 1 (inSt ((s1t 1))) [.c (bodyOf Try.f13)] .nor
noncomputable def E_readP_1 : Option Ran := ex1 (cfg 54) (fun n => if n = 4 then some false else if n = 10 then some false else if n = 14 then some false else if n = 6 then some true else if n = 15 then some false else none) 0 4000 50000 1 (inSt ((s1t 1))) [.c (bodyOf Try.f13)] .nor
noncomputable def E_readP_2 : Option Ran := ex1 (cfg 54) (fun n => if n = 4 then some false else if n = 10 then some false else if n = 14 then some false else if n = 6 then some false else none) 0 4000 70000 1 (inSt ((s1t 1))) [.c (bodyOf Try.f13)] .nor
noncomputable def E_readP_3 : Option Ran := ex1 (cfg 54) (fun n => if n = 4 then some false else if n = 10 then some false else if n = 14 then some true else none) 0 4000 90000 1 (inSt ((s1t 1))) [.c (bodyOf Try.f13)] .nor
noncomputable def E_readP_4 : Option Ran := ex1 (cfg 54) (fun n => if n = 4 then some false else if n = 10 then some true else none) 0 4000 110000 1 (inSt ((s1t 1))) [.c (bodyOf Try.f13)] .nor
noncomputable def E_readP_5 : Option Ran := ex1 (cfg 54) (fun n => if n = 4 then some true else none) 0 4000 130000 1 (inSt ((s1t 1))) [.c (bodyOf Try.f13)] .nor
theorem c_readP : Ctr Try.prog glb0 13 (s1t 1) ΦRead := by
  refine ctr (C := cfg 54) mixed ti_ok Try.func13 (by kernel_rfl) ?_
  rintro ds r X Q hl ⟨l, hb, hn, rfl, rfl⟩ hE
  by_cases hl32 : l.length = 32
  · have hW := le_lt l hb
    rw [hl32] at hW
    obtain ⟨w0, w1, w2, w3, a0, a1, a2, a3, en, nn⟩ := nums_split (n := le l) (Nat.lt_of_lt_of_le hW (by decide))
    have p255 : (2 : Nat) ^ 255 = 57896044618658097711785492504343953926634992332820282019728792003956564819968 := by decide
    obtain ⟨y, hy⟩ : ∃ y, y = le l % 2 ^ 255 := ⟨_, rfl⟩
    have hyl : y < 2 ^ 255 := by rw [hy]; exact Nat.mod_lt _ (by decide)
    rw [p255] at hyl
    by_cases hP : y < P
    · obtain ⟨q, hq⟩ : ∃ q : F, q = ⟨y, hP⟩ := ⟨_, rfl⟩
      have hqe : (⟨le l % 2 ^ 255, by rw [← hy]; exact hP⟩ : F) = q := by rw [hq]; exact Fin.ext hy.symm
      have nq : fn [q] = nums [y] := by rw [hq]; rfl
      by_cases hs : Ed.isSq (Ed.uv q) = true
      · by_cases ho : le l / 2 ^ 255 % 2 = 1
        · by_cases hz : Ed.root (Ed.uv q) = 0
          · refine Jd.go2 (E := E_readP_0) 1 [bts l] rfl rfl rfl [.call 16 ⟨none, [.one (.sv 1)], .tup [.one .v, .one .v]⟩ [.one (.rc (.all 0))] 1, .tupc 1 0 2, .tupc 1 1 3, .isAgg 2 4, .bin .neq 29 (.at (.one (.var 3))) (.at (.one (.lit (.int .i64 0)))) 4, .isBool 4 false, .bin .shr 24 (.at (.one (.part 2 3 4))) (.at (.one (.lit (.int .u64 63)))) 5, .bin .eql 24 (.at (.one (.var 5))) (.at (.one (.lit (.int .u64 1)))) 6, .bin .and 24 (.at (.one (.part 2 3 4))) (.at (.one (.lit (.int .u64 9223372036854775807)))) 7, .isOne (.var 7), .call 18 ⟨none, [], .two (.one .v)⟩ [] 8, .call 17 ⟨none, [.one .v, .one .v], .two (.one .v)⟩ [.agg [.a (.part 2 0 4), .a (.part 2 1 4), .a (.part 2 2 4), .a (.var 7)], .one (.a (.var 8))] 9, .un .not (.at (.one (.var 9))) 10, .isBool 10 false, .call 49 ⟨none, [.one .v], .tup [.one .v, .one .v]⟩ [.agg [.a (.part 2 0 4), .a (.part 2 1 4), .a (.part 2 2 4), .a (.var 7)]] 11, .tupc 11 0 12, .tupc 11 1 13, .isAgg 12 4, .un .not (.at (.one (.var 13))) 14, .isBool 14 false, .isBool 14 false, .isBool 6 true, .isAgg 12 4, .isBool 6 true, .call 25 ⟨none, [.one .v], .two (.one .v)⟩ [.one (.a (.var 12))] 15, .isBool 14 false, .isBool 6 true, .isBool 14 false, .isBool 15 true] (by kernel_rfl) ?_
            refine vc_call c_of (ds := [bts l]) (r := Value.tuple #[Value.agg #[U w0, U w1, U w2, U w3], I 0]) (fun _ => rfl) rfl (⟨l, hb, hn, rfl, by rw [if_pos hl32, nn]⟩) ?_
            refine vc_tupc (fun _ => rfl) rfl rfl ?_
            refine vc_tupc (fun _ => rfl) rfl rfl ?_
            refine vc_isAgg rfl rfl rfl ?_
            refine vc_cmp (op := .neq) (k := .i64) (x := 0) (y := 0) (t := false) (by exact fun _ => rfl) (by exact fun _ => rfl) rfl rfl ?_
            refine vc_isBool (rfl) ?_
            refine vc_shr64 (x := w3) (y := 63) (by exact fun _ => rfl) (by exact fun _ => rfl) rfl (by decide) fun v5 h5 => ?_
            refine vc_eql64 (x := v5) (y := 1) (by exact fun _ => rfl) (by exact fun _ => rfl) rfl fun v6 h6 => ?_
            refine vc_and64 (x := w3) (y := 9223372036854775807) (by exact fun _ => rfl) (by exact fun _ => rfl) rfl (by omega) (by decide) fun v7 h7 => ?_
            rw [show (9223372036854775807 : Nat) = 2 ^ 63 - 1 by decide, Nat.and_two_pow_sub_one_eq_mod, show (2 : Nat) ^ 63 = 9223372036854775808 by decide] at h7
            rw [show (2 : Nat) ^ 63 = 9223372036854775808 by decide] at h5
            have ny : nums [y] = Value.agg #[U w0, U w1, U w2, U v7] := nums_words (by omega) (by omega) (by omega) (by omega) (by rw [hy, h7, p255]; omega)
            have hodd : v6 = decide (le l / 2 ^ 255 % 2 = 1) := by rw [h6, h5, p255, Bool.eq_iff_iff, beq_iff_eq, decide_eq_true_eq]; omega
            refine vc_isOne rfl ?_
            refine vc_call c_prime (ds := []) (r := nums [Ed.P]) (fun _ => rfl) rfl (⟨rfl, rfl⟩) ?_
            refine vc_call c_less (ds := [_, nums [Ed.P]]) (r := Bo (decide (y < Ed.P))) (fun _ => rfl) rfl (⟨y, _, by omega, (by decide), by rw [ny], rfl⟩) ?_
            refine vc_not (fun _ => rfl) rfl ?_
            refine vc_isBool (by show Bo (!decide _) = _; rw [decide_eq_true hP]; rfl) ?_
            refine vc_call c_other (ds := [_]) (r := Value.tuple #[fn [Ed.root (Ed.uv q)], Bo (Ed.isSq (Ed.uv q))]) (fun _ => rfl) rfl (⟨q, by rw [nq, ny], rfl⟩) ?_
            refine vc_tupc (fun _ => rfl) rfl rfl ?_
            refine vc_tupc (fun _ => rfl) rfl rfl ?_
            refine vc_isAgg rfl rfl rfl ?_
            refine vc_not (fun _ => rfl) rfl ?_
            refine vc_isBool (by show Bo (!Ed.isSq (Ed.uv q)) = _; rw [hs]; rfl) ?_
            refine vc_isBool (by show Bo (!Ed.isSq (Ed.uv q)) = _; rw [hs]; rfl) ?_
            refine vc_isBool (by show Bo v6 = _; rw [hodd, decide_eq_true ho]; rfl) ?_
            refine vc_isAgg rfl rfl rfl ?_
            refine vc_isBool (by show Bo v6 = _; rw [hodd, decide_eq_true ho]; rfl) ?_
            refine vc_call c_zero (ds := [fn [Ed.root (Ed.uv q)]]) (r := Bo (decide ((Ed.root (Ed.uv q)).val = 0))) (fun _ => rfl) rfl (⟨_, F_lt _, rfl, rfl⟩) ?_
            refine vc_isBool (by show Bo (!Ed.isSq (Ed.uv q)) = _; rw [hs]; rfl) ?_
            refine vc_isBool (by show Bo v6 = _; rw [hodd, decide_eq_true ho]; rfl) ?_
            refine vc_isBool (by show Bo (!Ed.isSq (Ed.uv q)) = _; rw [hs]; rfl) ?_
            refine vc_isBool (by show Bo (decide _) = _; rw [hz]; rfl) ?_
            refine vc_nil ?_
            refine JF.ret (by kernel_rfl) ?_
            refine hE.fin3 16 [Bo (decide ((Ed.root (Ed.uv q)).val = 0)), Bo (!(Ed.isSq (Ed.uv q))), Bo (Ed.isSq (Ed.uv q)), fn [Ed.root (Ed.uv q)], Value.tuple #[fn [Ed.root (Ed.uv q)], Bo (Ed.isSq (Ed.uv q))], Bo (!(decide (y < Ed.P))), Bo (decide (y < Ed.P)), nums [Ed.P], U v7, Bo v6, U v5, Bo false, I 0, Value.agg #[U w0, U w1, U w2, U w3], Value.tuple #[Value.agg #[U w0, U w1, U w2, U w3], I 0], bts l] rfl rfl (cm := []) (ds := [.v (.at (.agg [.lit (.int .u64 0), .lit (.int .u64 0), .lit (.int .u64 0), .lit (.int .u64 0), .lit (.int .u64 0), .lit (.int .u64 0), .lit (.int .u64 0), .lit (.int .u64 0)])), .v (.at (.one (.lit (.int .i64 5))))]) (by kernel_rfl) rfl (.inr rfl) ?_
            refine vc_nil ?_
            show Value.tuple #[nums [0, 0], I 5] = _
            exact (readP_none hl32 hP hy hq hs ho hz).symm
          · refine Jd.go2 (E := E_readP_1) 1 [bts l] rfl rfl rfl [.call 16 ⟨none, [.one (.sv 1)], .tup [.one .v, .one .v]⟩ [.one (.rc (.all 0))] 1, .tupc 1 0 2, .tupc 1 1 3, .isAgg 2 4, .bin .neq 29 (.at (.one (.var 3))) (.at (.one (.lit (.int .i64 0)))) 4, .isBool 4 false, .bin .shr 24 (.at (.one (.part 2 3 4))) (.at (.one (.lit (.int .u64 63)))) 5, .bin .eql 24 (.at (.one (.var 5))) (.at (.one (.lit (.int .u64 1)))) 6, .bin .and 24 (.at (.one (.part 2 3 4))) (.at (.one (.lit (.int .u64 9223372036854775807)))) 7, .isOne (.var 7), .call 18 ⟨none, [], .two (.one .v)⟩ [] 8, .call 17 ⟨none, [.one .v, .one .v], .two (.one .v)⟩ [.agg [.a (.part 2 0 4), .a (.part 2 1 4), .a (.part 2 2 4), .a (.var 7)], .one (.a (.var 8))] 9, .un .not (.at (.one (.var 9))) 10, .isBool 10 false, .call 49 ⟨none, [.one .v], .tup [.one .v, .one .v]⟩ [.agg [.a (.part 2 0 4), .a (.part 2 1 4), .a (.part 2 2 4), .a (.var 7)]] 11, .tupc 11 0 12, .tupc 11 1 13, .isAgg 12 4, .un .not (.at (.one (.var 13))) 14, .isBool 14 false, .isBool 14 false, .isBool 6 true, .isAgg 12 4, .isBool 6 true, .call 25 ⟨none, [.one .v], .two (.one .v)⟩ [.one (.a (.var 12))] 15, .isBool 14 false, .isBool 6 true, .isBool 14 false, .isBool 15 false, .isAgg 12 4, .isAgg 12 4, .isBool 6 true, .call 35 ⟨none, [.one .v], .two (.one .v)⟩ [.agg [.a (.part 12 0 4), .a (.part 12 1 4), .a (.part 12 2 4), .a (.part 12 3 4), .a (.part 2 0 4), .a (.part 2 1 4), .a (.part 2 2 4), .a (.var 7)]] 16, .isAgg 16 8, .isAgg 16 8, .isAgg 16 8] (by kernel_rfl) ?_
            refine vc_call c_of (ds := [bts l]) (r := Value.tuple #[Value.agg #[U w0, U w1, U w2, U w3], I 0]) (fun _ => rfl) rfl (⟨l, hb, hn, rfl, by rw [if_pos hl32, nn]⟩) ?_
            refine vc_tupc (fun _ => rfl) rfl rfl ?_
            refine vc_tupc (fun _ => rfl) rfl rfl ?_
            refine vc_isAgg rfl rfl rfl ?_
            refine vc_cmp (op := .neq) (k := .i64) (x := 0) (y := 0) (t := false) (by exact fun _ => rfl) (by exact fun _ => rfl) rfl rfl ?_
            refine vc_isBool (rfl) ?_
            refine vc_shr64 (x := w3) (y := 63) (by exact fun _ => rfl) (by exact fun _ => rfl) rfl (by decide) fun v5 h5 => ?_
            refine vc_eql64 (x := v5) (y := 1) (by exact fun _ => rfl) (by exact fun _ => rfl) rfl fun v6 h6 => ?_
            refine vc_and64 (x := w3) (y := 9223372036854775807) (by exact fun _ => rfl) (by exact fun _ => rfl) rfl (by omega) (by decide) fun v7 h7 => ?_
            rw [show (9223372036854775807 : Nat) = 2 ^ 63 - 1 by decide, Nat.and_two_pow_sub_one_eq_mod, show (2 : Nat) ^ 63 = 9223372036854775808 by decide] at h7
            rw [show (2 : Nat) ^ 63 = 9223372036854775808 by decide] at h5
            have ny : nums [y] = Value.agg #[U w0, U w1, U w2, U v7] := nums_words (by omega) (by omega) (by omega) (by omega) (by rw [hy, h7, p255]; omega)
            have hodd : v6 = decide (le l / 2 ^ 255 % 2 = 1) := by rw [h6, h5, p255, Bool.eq_iff_iff, beq_iff_eq, decide_eq_true_eq]; omega
            refine vc_isOne rfl ?_
            refine vc_call c_prime (ds := []) (r := nums [Ed.P]) (fun _ => rfl) rfl (⟨rfl, rfl⟩) ?_
            refine vc_call c_less (ds := [_, nums [Ed.P]]) (r := Bo (decide (y < Ed.P))) (fun _ => rfl) rfl (⟨y, _, by omega, (by decide), by rw [ny], rfl⟩) ?_
            refine vc_not (fun _ => rfl) rfl ?_
            refine vc_isBool (by show Bo (!decide _) = _; rw [decide_eq_true hP]; rfl) ?_
            refine vc_call c_other (ds := [_]) (r := Value.tuple #[fn [Ed.root (Ed.uv q)], Bo (Ed.isSq (Ed.uv q))]) (fun _ => rfl) rfl (⟨q, by rw [nq, ny], rfl⟩) ?_
            refine vc_tupc (fun _ => rfl) rfl rfl ?_
            refine vc_tupc (fun _ => rfl) rfl rfl ?_
            refine vc_isAgg rfl rfl rfl ?_
            refine vc_not (fun _ => rfl) rfl ?_
            refine vc_isBool (by show Bo (!Ed.isSq (Ed.uv q)) = _; rw [hs]; rfl) ?_
            refine vc_isBool (by show Bo (!Ed.isSq (Ed.uv q)) = _; rw [hs]; rfl) ?_
            refine vc_isBool (by show Bo v6 = _; rw [hodd, decide_eq_true ho]; rfl) ?_
            refine vc_isAgg rfl rfl rfl ?_
            refine vc_isBool (by show Bo v6 = _; rw [hodd, decide_eq_true ho]; rfl) ?_
            refine vc_call c_zero (ds := [fn [Ed.root (Ed.uv q)]]) (r := Bo (decide ((Ed.root (Ed.uv q)).val = 0))) (fun _ => rfl) rfl (⟨_, F_lt _, rfl, rfl⟩) ?_
            refine vc_isBool (by show Bo (!Ed.isSq (Ed.uv q)) = _; rw [hs]; rfl) ?_
            refine vc_isBool (by show Bo v6 = _; rw [hodd, decide_eq_true ho]; rfl) ?_
            refine vc_isBool (by show Bo (!Ed.isSq (Ed.uv q)) = _; rw [hs]; rfl) ?_
            refine vc_isBool (by show Bo (decide _) = _; rw [decide_eq_false (p := (Ed.root (Ed.uv q)).val = 0) (fun h => hz (Fin.ext h))]; rfl) ?_
            refine vc_isAgg rfl rfl rfl ?_
            refine vc_isAgg rfl rfl rfl ?_
            refine vc_isBool (by show Bo v6 = _; rw [hodd, decide_eq_true ho]; rfl) ?_
            refine vc_call c_minusP (ds := [Value.agg ((wds 4 (Ed.root (Ed.uv q)).val).toArray ++ #[U w0, U w1, U w2, U v7])]) (r := PV ((-(⟨Ed.root (Ed.uv q), q, Ed.on_iff.2 (Ed.root_sq hs).1⟩ : Pt)))) (fun _ => rfl) rfl (⟨(⟨Ed.root (Ed.uv q), q, Ed.on_iff.2 (Ed.root_sq hs).1⟩ : Pt), by rw [readP_val (by rw [nq, ny])], rfl⟩) ?_
            refine vc_isAgg rfl rfl rfl ?_
            refine vc_isAgg rfl rfl rfl ?_
            refine vc_isAgg rfl rfl rfl ?_
            refine vc_nil ?_
            refine JF.ret (by kernel_rfl) ?_
            refine hE.fin3 17 [PV ((-(⟨Ed.root (Ed.uv q), q, Ed.on_iff.2 (Ed.root_sq hs).1⟩ : Pt))), Bo (decide ((Ed.root (Ed.uv q)).val = 0)), Bo (!(Ed.isSq (Ed.uv q))), Bo (Ed.isSq (Ed.uv q)), fn [Ed.root (Ed.uv q)], Value.tuple #[fn [Ed.root (Ed.uv q)], Bo (Ed.isSq (Ed.uv q))], Bo (!(decide (y < Ed.P))), Bo (decide (y < Ed.P)), nums [Ed.P], U v7, Bo v6, U v5, Bo false, I 0, Value.agg #[U w0, U w1, U w2, U w3], Value.tuple #[Value.agg #[U w0, U w1, U w2, U w3], I 0], bts l] rfl rfl (cm := [.isAgg 16 8]) (ds := [.v (.at (.one (.var 16))), .v (.at (.one (.lit (.int .i64 0))))]) (by kernel_rfl) rfl (.inr rfl) ?_
            refine vc_isAgg rfl rfl rfl ?_
            refine vc_nil ?_
            show Value.tuple #[PV ((-(⟨Ed.root (Ed.uv q), q, Ed.on_iff.2 (Ed.root_sq hs).1⟩ : Pt))), I 0] = _
            exact (readP_neg hl32 hP hy hq hs ho hz).symm
        · refine Jd.go2 (E := E_readP_2) 1 [bts l] rfl rfl rfl [.call 16 ⟨none, [.one (.sv 1)], .tup [.one .v, .one .v]⟩ [.one (.rc (.all 0))] 1, .tupc 1 0 2, .tupc 1 1 3, .isAgg 2 4, .bin .neq 29 (.at (.one (.var 3))) (.at (.one (.lit (.int .i64 0)))) 4, .isBool 4 false, .bin .shr 24 (.at (.one (.part 2 3 4))) (.at (.one (.lit (.int .u64 63)))) 5, .bin .eql 24 (.at (.one (.var 5))) (.at (.one (.lit (.int .u64 1)))) 6, .bin .and 24 (.at (.one (.part 2 3 4))) (.at (.one (.lit (.int .u64 9223372036854775807)))) 7, .isOne (.var 7), .call 18 ⟨none, [], .two (.one .v)⟩ [] 8, .call 17 ⟨none, [.one .v, .one .v], .two (.one .v)⟩ [.agg [.a (.part 2 0 4), .a (.part 2 1 4), .a (.part 2 2 4), .a (.var 7)], .one (.a (.var 8))] 9, .un .not (.at (.one (.var 9))) 10, .isBool 10 false, .call 49 ⟨none, [.one .v], .tup [.one .v, .one .v]⟩ [.agg [.a (.part 2 0 4), .a (.part 2 1 4), .a (.part 2 2 4), .a (.var 7)]] 11, .tupc 11 0 12, .tupc 11 1 13, .isAgg 12 4, .un .not (.at (.one (.var 13))) 14, .isBool 14 false, .isBool 14 false, .isBool 6 false, .isBool 6 false, .isBool 14 false, .isBool 6 false, .isBool 14 false, .isAgg 12 4, .isAgg 12 4, .isBool 6 false] (by kernel_rfl) ?_
          refine vc_call c_of (ds := [bts l]) (r := Value.tuple #[Value.agg #[U w0, U w1, U w2, U w3], I 0]) (fun _ => rfl) rfl (⟨l, hb, hn, rfl, by rw [if_pos hl32, nn]⟩) ?_
          refine vc_tupc (fun _ => rfl) rfl rfl ?_
          refine vc_tupc (fun _ => rfl) rfl rfl ?_
          refine vc_isAgg rfl rfl rfl ?_
          refine vc_cmp (op := .neq) (k := .i64) (x := 0) (y := 0) (t := false) (by exact fun _ => rfl) (by exact fun _ => rfl) rfl rfl ?_
          refine vc_isBool (rfl) ?_
          refine vc_shr64 (x := w3) (y := 63) (by exact fun _ => rfl) (by exact fun _ => rfl) rfl (by decide) fun v5 h5 => ?_
          refine vc_eql64 (x := v5) (y := 1) (by exact fun _ => rfl) (by exact fun _ => rfl) rfl fun v6 h6 => ?_
          refine vc_and64 (x := w3) (y := 9223372036854775807) (by exact fun _ => rfl) (by exact fun _ => rfl) rfl (by omega) (by decide) fun v7 h7 => ?_
          rw [show (9223372036854775807 : Nat) = 2 ^ 63 - 1 by decide, Nat.and_two_pow_sub_one_eq_mod, show (2 : Nat) ^ 63 = 9223372036854775808 by decide] at h7
          rw [show (2 : Nat) ^ 63 = 9223372036854775808 by decide] at h5
          have ny : nums [y] = Value.agg #[U w0, U w1, U w2, U v7] := nums_words (by omega) (by omega) (by omega) (by omega) (by rw [hy, h7, p255]; omega)
          have hodd : v6 = decide (le l / 2 ^ 255 % 2 = 1) := by rw [h6, h5, p255, Bool.eq_iff_iff, beq_iff_eq, decide_eq_true_eq]; omega
          refine vc_isOne rfl ?_
          refine vc_call c_prime (ds := []) (r := nums [Ed.P]) (fun _ => rfl) rfl (⟨rfl, rfl⟩) ?_
          refine vc_call c_less (ds := [_, nums [Ed.P]]) (r := Bo (decide (y < Ed.P))) (fun _ => rfl) rfl (⟨y, _, by omega, (by decide), by rw [ny], rfl⟩) ?_
          refine vc_not (fun _ => rfl) rfl ?_
          refine vc_isBool (by show Bo (!decide _) = _; rw [decide_eq_true hP]; rfl) ?_
          refine vc_call c_other (ds := [_]) (r := Value.tuple #[fn [Ed.root (Ed.uv q)], Bo (Ed.isSq (Ed.uv q))]) (fun _ => rfl) rfl (⟨q, by rw [nq, ny], rfl⟩) ?_
          refine vc_tupc (fun _ => rfl) rfl rfl ?_
          refine vc_tupc (fun _ => rfl) rfl rfl ?_
          refine vc_isAgg rfl rfl rfl ?_
          refine vc_not (fun _ => rfl) rfl ?_
          refine vc_isBool (by show Bo (!Ed.isSq (Ed.uv q)) = _; rw [hs]; rfl) ?_
          refine vc_isBool (by show Bo (!Ed.isSq (Ed.uv q)) = _; rw [hs]; rfl) ?_
          refine vc_isBool (by show Bo v6 = _; rw [hodd, decide_eq_false ho]; rfl) ?_
          refine vc_isBool (by show Bo v6 = _; rw [hodd, decide_eq_false ho]; rfl) ?_
          refine vc_isBool (by show Bo (!Ed.isSq (Ed.uv q)) = _; rw [hs]; rfl) ?_
          refine vc_isBool (by show Bo v6 = _; rw [hodd, decide_eq_false ho]; rfl) ?_
          refine vc_isBool (by show Bo (!Ed.isSq (Ed.uv q)) = _; rw [hs]; rfl) ?_
          refine vc_isAgg rfl rfl rfl ?_
          refine vc_isAgg rfl rfl rfl ?_
          refine vc_isBool (by show Bo v6 = _; rw [hodd, decide_eq_false ho]; rfl) ?_
          refine vc_nil ?_
          refine JF.ret (by kernel_rfl) ?_
          refine hE.fin3 15 [Bo (!(Ed.isSq (Ed.uv q))), Bo (Ed.isSq (Ed.uv q)), fn [Ed.root (Ed.uv q)], Value.tuple #[fn [Ed.root (Ed.uv q)], Bo (Ed.isSq (Ed.uv q))], Bo (!(decide (y < Ed.P))), Bo (decide (y < Ed.P)), nums [Ed.P], U v7, Bo v6, U v5, Bo false, I 0, Value.agg #[U w0, U w1, U w2, U w3], Value.tuple #[Value.agg #[U w0, U w1, U w2, U w3], I 0], bts l] rfl rfl (cm := []) (ds := [.v (.at (.agg [.part 12 0 4, .part 12 1 4, .part 12 2 4, .part 12 3 4, .part 2 0 4, .part 2 1 4, .part 2 2 4, .var 7])), .v (.at (.one (.lit (.int .i64 0))))]) (by kernel_rfl) rfl (.inr rfl) ?_
          refine vc_nil ?_
          show Value.tuple #[_, I 0] = _
          show Value.tuple #[Value.agg ((wds 4 (Ed.root (Ed.uv q)).val).toArray ++ #[U w0, U w1, U w2, U v7]), I 0] = _
          rw [readP_val (by rw [nq, ny])]
          exact (readP_pos hl32 hP hy hq hs ho).symm
      · refine Jd.go2 (E := E_readP_3) 1 [bts l] rfl rfl rfl [.call 16 ⟨none, [.one (.sv 1)], .tup [.one .v, .one .v]⟩ [.one (.rc (.all 0))] 1, .tupc 1 0 2, .tupc 1 1 3, .isAgg 2 4, .bin .neq 29 (.at (.one (.var 3))) (.at (.one (.lit (.int .i64 0)))) 4, .isBool 4 false, .bin .shr 24 (.at (.one (.part 2 3 4))) (.at (.one (.lit (.int .u64 63)))) 5, .bin .eql 24 (.at (.one (.var 5))) (.at (.one (.lit (.int .u64 1)))) 6, .bin .and 24 (.at (.one (.part 2 3 4))) (.at (.one (.lit (.int .u64 9223372036854775807)))) 7, .isOne (.var 7), .call 18 ⟨none, [], .two (.one .v)⟩ [] 8, .call 17 ⟨none, [.one .v, .one .v], .two (.one .v)⟩ [.agg [.a (.part 2 0 4), .a (.part 2 1 4), .a (.part 2 2 4), .a (.var 7)], .one (.a (.var 8))] 9, .un .not (.at (.one (.var 9))) 10, .isBool 10 false, .call 49 ⟨none, [.one .v], .tup [.one .v, .one .v]⟩ [.agg [.a (.part 2 0 4), .a (.part 2 1 4), .a (.part 2 2 4), .a (.var 7)]] 11, .tupc 11 0 12, .tupc 11 1 13, .isAgg 12 4, .un .not (.at (.one (.var 13))) 14, .isBool 14 true, .isBool 14 true, .isBool 14 true, .isBool 14 true] (by kernel_rfl) ?_
        refine vc_call c_of (ds := [bts l]) (r := Value.tuple #[Value.agg #[U w0, U w1, U w2, U w3], I 0]) (fun _ => rfl) rfl (⟨l, hb, hn, rfl, by rw [if_pos hl32, nn]⟩) ?_
        refine vc_tupc (fun _ => rfl) rfl rfl ?_
        refine vc_tupc (fun _ => rfl) rfl rfl ?_
        refine vc_isAgg rfl rfl rfl ?_
        refine vc_cmp (op := .neq) (k := .i64) (x := 0) (y := 0) (t := false) (by exact fun _ => rfl) (by exact fun _ => rfl) rfl rfl ?_
        refine vc_isBool (rfl) ?_
        refine vc_shr64 (x := w3) (y := 63) (by exact fun _ => rfl) (by exact fun _ => rfl) rfl (by decide) fun v5 h5 => ?_
        refine vc_eql64 (x := v5) (y := 1) (by exact fun _ => rfl) (by exact fun _ => rfl) rfl fun v6 h6 => ?_
        refine vc_and64 (x := w3) (y := 9223372036854775807) (by exact fun _ => rfl) (by exact fun _ => rfl) rfl (by omega) (by decide) fun v7 h7 => ?_
        rw [show (9223372036854775807 : Nat) = 2 ^ 63 - 1 by decide, Nat.and_two_pow_sub_one_eq_mod, show (2 : Nat) ^ 63 = 9223372036854775808 by decide] at h7
        rw [show (2 : Nat) ^ 63 = 9223372036854775808 by decide] at h5
        have ny : nums [y] = Value.agg #[U w0, U w1, U w2, U v7] := nums_words (by omega) (by omega) (by omega) (by omega) (by rw [hy, h7, p255]; omega)
        have hodd : v6 = decide (le l / 2 ^ 255 % 2 = 1) := by rw [h6, h5, p255, Bool.eq_iff_iff, beq_iff_eq, decide_eq_true_eq]; omega
        refine vc_isOne rfl ?_
        refine vc_call c_prime (ds := []) (r := nums [Ed.P]) (fun _ => rfl) rfl (⟨rfl, rfl⟩) ?_
        refine vc_call c_less (ds := [_, nums [Ed.P]]) (r := Bo (decide (y < Ed.P))) (fun _ => rfl) rfl (⟨y, _, by omega, (by decide), by rw [ny], rfl⟩) ?_
        refine vc_not (fun _ => rfl) rfl ?_
        refine vc_isBool (by show Bo (!decide _) = _; rw [decide_eq_true hP]; rfl) ?_
        refine vc_call c_other (ds := [_]) (r := Value.tuple #[fn [Ed.root (Ed.uv q)], Bo (Ed.isSq (Ed.uv q))]) (fun _ => rfl) rfl (⟨q, by rw [nq, ny], rfl⟩) ?_
        refine vc_tupc (fun _ => rfl) rfl rfl ?_
        refine vc_tupc (fun _ => rfl) rfl rfl ?_
        refine vc_isAgg rfl rfl rfl ?_
        refine vc_not (fun _ => rfl) rfl ?_
        refine vc_isBool (by show Bo (!Ed.isSq (Ed.uv q)) = _; rw [Bool.eq_false_iff.2 hs]; rfl) ?_
        refine vc_isBool (by show Bo (!Ed.isSq (Ed.uv q)) = _; rw [Bool.eq_false_iff.2 hs]; rfl) ?_
        refine vc_isBool (by show Bo (!Ed.isSq (Ed.uv q)) = _; rw [Bool.eq_false_iff.2 hs]; rfl) ?_
        refine vc_isBool (by show Bo (!Ed.isSq (Ed.uv q)) = _; rw [Bool.eq_false_iff.2 hs]; rfl) ?_
        refine vc_nil ?_
        refine JF.ret (by kernel_rfl) ?_
        refine hE.fin3 15 [Bo (!(Ed.isSq (Ed.uv q))), Bo (Ed.isSq (Ed.uv q)), fn [Ed.root (Ed.uv q)], Value.tuple #[fn [Ed.root (Ed.uv q)], Bo (Ed.isSq (Ed.uv q))], Bo (!(decide (y < Ed.P))), Bo (decide (y < Ed.P)), nums [Ed.P], U v7, Bo v6, U v5, Bo false, I 0, Value.agg #[U w0, U w1, U w2, U w3], Value.tuple #[Value.agg #[U w0, U w1, U w2, U w3], I 0], bts l] rfl rfl (cm := []) (ds := [.v (.at (.agg [.lit (.int .u64 0), .lit (.int .u64 0), .lit (.int .u64 0), .lit (.int .u64 0), .lit (.int .u64 0), .lit (.int .u64 0), .lit (.int .u64 0), .lit (.int .u64 0)])), .v (.at (.one (.lit (.int .i64 5))))]) (by kernel_rfl) rfl (.inr rfl) ?_
        refine vc_nil ?_
        show Value.tuple #[nums [0, 0], I 5] = _
        exact (readP_nsq hl32 hP hy hq hs).symm
    · refine Jd.go2 (E := E_readP_4) 1 [bts l] rfl rfl rfl [.call 16 ⟨none, [.one (.sv 1)], .tup [.one .v, .one .v]⟩ [.one (.rc (.all 0))] 1, .tupc 1 0 2, .tupc 1 1 3, .isAgg 2 4, .bin .neq 29 (.at (.one (.var 3))) (.at (.one (.lit (.int .i64 0)))) 4, .isBool 4 false, .bin .shr 24 (.at (.one (.part 2 3 4))) (.at (.one (.lit (.int .u64 63)))) 5, .bin .eql 24 (.at (.one (.var 5))) (.at (.one (.lit (.int .u64 1)))) 6, .bin .and 24 (.at (.one (.part 2 3 4))) (.at (.one (.lit (.int .u64 9223372036854775807)))) 7, .isOne (.var 7), .call 18 ⟨none, [], .two (.one .v)⟩ [] 8, .call 17 ⟨none, [.one .v, .one .v], .two (.one .v)⟩ [.agg [.a (.part 2 0 4), .a (.part 2 1 4), .a (.part 2 2 4), .a (.var 7)], .one (.a (.var 8))] 9, .un .not (.at (.one (.var 9))) 10, .isBool 10 true] (by kernel_rfl) ?_
      refine vc_call c_of (ds := [bts l]) (r := Value.tuple #[Value.agg #[U w0, U w1, U w2, U w3], I 0]) (fun _ => rfl) rfl (⟨l, hb, hn, rfl, by rw [if_pos hl32, nn]⟩) ?_
      refine vc_tupc (fun _ => rfl) rfl rfl ?_
      refine vc_tupc (fun _ => rfl) rfl rfl ?_
      refine vc_isAgg rfl rfl rfl ?_
      refine vc_cmp (op := .neq) (k := .i64) (x := 0) (y := 0) (t := false) (by exact fun _ => rfl) (by exact fun _ => rfl) rfl rfl ?_
      refine vc_isBool (rfl) ?_
      refine vc_shr64 (x := w3) (y := 63) (by exact fun _ => rfl) (by exact fun _ => rfl) rfl (by decide) fun v5 h5 => ?_
      refine vc_eql64 (x := v5) (y := 1) (by exact fun _ => rfl) (by exact fun _ => rfl) rfl fun v6 h6 => ?_
      refine vc_and64 (x := w3) (y := 9223372036854775807) (by exact fun _ => rfl) (by exact fun _ => rfl) rfl (by omega) (by decide) fun v7 h7 => ?_
      rw [show (9223372036854775807 : Nat) = 2 ^ 63 - 1 by decide, Nat.and_two_pow_sub_one_eq_mod, show (2 : Nat) ^ 63 = 9223372036854775808 by decide] at h7
      rw [show (2 : Nat) ^ 63 = 9223372036854775808 by decide] at h5
      have ny : nums [y] = Value.agg #[U w0, U w1, U w2, U v7] := nums_words (by omega) (by omega) (by omega) (by omega) (by rw [hy, h7, p255]; omega)
      have hodd : v6 = decide (le l / 2 ^ 255 % 2 = 1) := by rw [h6, h5, p255, Bool.eq_iff_iff, beq_iff_eq, decide_eq_true_eq]; omega
      refine vc_isOne rfl ?_
      refine vc_call c_prime (ds := []) (r := nums [Ed.P]) (fun _ => rfl) rfl (⟨rfl, rfl⟩) ?_
      refine vc_call c_less (ds := [_, nums [Ed.P]]) (r := Bo (decide (y < Ed.P))) (fun _ => rfl) rfl (⟨y, _, by omega, (by decide), by rw [ny], rfl⟩) ?_
      refine vc_not (fun _ => rfl) rfl ?_
      refine vc_isBool (by show Bo (!decide _) = _; rw [decide_eq_false hP]; rfl) ?_
      refine vc_nil ?_
      refine JF.ret (by kernel_rfl) ?_
      refine hE.fin3 11 [Bo (!(decide (y < Ed.P))), Bo (decide (y < Ed.P)), nums [Ed.P], U v7, Bo v6, U v5, Bo false, I 0, Value.agg #[U w0, U w1, U w2, U w3], Value.tuple #[Value.agg #[U w0, U w1, U w2, U w3], I 0], bts l] rfl rfl (cm := []) (ds := [.v (.at (.agg [.lit (.int .u64 0), .lit (.int .u64 0), .lit (.int .u64 0), .lit (.int .u64 0), .lit (.int .u64 0), .lit (.int .u64 0), .lit (.int .u64 0), .lit (.int .u64 0)])), .v (.at (.one (.lit (.int .i64 5))))]) (by kernel_rfl) rfl (.inr rfl) ?_
      refine vc_nil ?_
      show Value.tuple #[nums [0, 0], I 5] = _
      exact (readP_big hl32 hP hy).symm
  · refine Jd.go2 (E := E_readP_5) 1 [bts l] rfl rfl rfl [.call 16 ⟨none, [.one (.sv 1)], .tup [.one .v, .one .v]⟩ [.one (.rc (.all 0))] 1, .tupc 1 0 2, .tupc 1 1 3, .isAgg 2 4, .bin .neq 29 (.at (.one (.var 3))) (.at (.one (.lit (.int .i64 0)))) 4, .isBool 4 true] (by kernel_rfl) ?_
    refine vc_call c_of (ds := [bts l]) (r := Value.tuple #[nums [0], I 3]) (fun _ => rfl) rfl (⟨l, hb, hn, rfl, by rw [if_neg hl32]⟩) ?_
    refine vc_tupc (fun _ => rfl) rfl rfl ?_
    refine vc_tupc (fun _ => rfl) rfl rfl ?_
    refine vc_isAgg rfl rfl rfl ?_
    refine vc_cmp (op := .neq) (k := .i64) (x := 3) (y := 0) (t := true) (by exact fun _ => rfl) (by exact fun _ => rfl) rfl rfl ?_
    refine vc_isBool (rfl) ?_
    refine vc_nil ?_
    refine JF.ret (by kernel_rfl) ?_
    refine hE.fin3 5 [Bo true, I 3, nums [0], Value.tuple #[nums [0], I 3], bts l] rfl rfl (cm := []) (ds := [.v (.at (.agg [.lit (.int .u64 0), .lit (.int .u64 0), .lit (.int .u64 0), .lit (.int .u64 0), .lit (.int .u64 0), .lit (.int .u64 0), .lit (.int .u64 0), .lit (.int .u64 0)])), .v (.at (.one (.var 3)))]) (by kernel_rfl) rfl (.inr rfl) ?_
    refine vc_nil ?_
    show Value.tuple #[nums [0, 0], I 3] = _
    exact (readP_short hl32).symm

end Go.Proofs.Ytpeafegfjhljmaa

/-
  Functions of the program: what each computes.
-/
open Go Go.Sx Go.Proofs
open Ed (F P inv pw Pt)
namespace Go.Proofs.Ytpeafegfjhljmaa
set_option maxRecDepth 100000
set_option maxHeartbeats 4000000
theorem c_goodP : Ctr Try.prog glb0 14 v1v (fun ds r => ∃ p : Pt, ds = [PV p] ∧ r = Bo true) := c_good.imp fun _ _ ⟨p, h1, h2⟩ => ⟨p.x.val, p.y.val, F_lt _, F_lt _, h1, by rw [h2, ofN_val, ofN_val, decide_eq_true ⟨p.x.isLt, p.y.isLt, p.on⟩]⟩
theorem c_readP32 : Ctr Try.prog glb0 13 (s1t 1) (fun ds r => ∃ l, isB l ∧ l.length = 32 ∧ ds = [bts l] ∧ r = rdV (Ed.readP true (le l))) := c_readP.imp fun _ _ ⟨l, hb, h1, h2, h3⟩ => ⟨l, hb, by rw [h1]; decide, h2, by rw [h3, ← decide_eq_true h1]; rfl⟩
theorem c_readPk : Ctr Try.prog glb0 13 (s1t 1) (fun ds r => ∃ l, isB l ∧ l.length < 2 ^ 60 ∧ ds = [bts l] ∧ r = rdV (Ed.readP (decide (l.length = 32)) (le l))) := c_readP.imp fun _ _ ⟨l, hb, h1, h2, h3⟩ => ⟨l, hb, h1, h2, h3⟩
noncomputable def E_awake9_0 : Option Ran := ex1 (cfg 23) (fun n => if n = 3 then some true else if n = 5 then some true else if n = 7 then some true else none) 0 4000 30000 0 (inSt (v0)) [.c (bodyOf Try.f12)] .nor
theorem c_awake9 : Ctr Try.prog glb0 12 v0 (Φ0 (Bo true)) := by
  refine ctr (C := cfg 23) mixed ti_ok Try.func12 (by kernel_rfl) ?_
  rintro ds r X Q hl ⟨rfl, rfl⟩ hE
  refine Jd.go2 (E := E_awake9_0) 0 [] rfl rfl rfl [.call 36 ⟨none, [], .two (.one .v)⟩ [] 0, .call 15 ⟨none, [.one .v], .two (.one (.s 1 5))⟩ [.one (.a (.var 0))] 1, .len 1 1 2, .bin .eql 3 (.at (.one (.var 2))) (.at (.one (.lit (.int .i64 32)))) 3, .isBool 3 true, .isBool 3 true, .ltlen 0 1 1, .isBool 3 true, .get (.all 1) 0 4, .isBool 3 true, .bin .eql 5 (.at (.one (.var 4))) (.at (.one (.lit (.int .u8 1)))) 5, .isBool 3 true, .isBool 5 true, .isBool 5 true, .ltlen 31 1 1, .isBool 5 true, .get (.all 1) 31 6, .isBool 5 true, .bin .eql 5 (.at (.one (.var 6))) (.at (.one (.lit (.int .u8 0)))) 7, .isBool 5 true, .isBool 7 true, .call 40 ⟨none, [], .two (.one .v)⟩ [] 8, .isBool 7 true, .call 14 ⟨none, [.one .v], .two (.one .v)⟩ [.one (.a (.var 8))] 9, .isBool 7 true] (by kernel_rfl) ?_
  refine vc_call c_naught (ds := []) (r := PV ((0 : Pt))) (fun _ => rfl) rfl (⟨rfl, rfl⟩) ?_
  refine vc_call c_bytesP (ds := [PV ((0 : Pt))]) (r := bts [1, 0, 0, 0, 0, 0, 0, 0, 0, 0, 0, 0, 0, 0, 0, 0, 0, 0, 0, 0, 0, 0, 0, 0, 0, 0, 0, 0, 0, 0, 0, 0]) (fun _ => rfl) rfl (⟨0, rfl, by kernel_rfl⟩) ?_
  refine vc_len (k := 32) (by exact fun _ => rfl) rfl rfl ?_
  refine vc_cmp (op := .eql) (k := .i64) (x := 32) (y := 32) (t := true) (by exact fun _ => rfl) (by exact fun _ => rfl) rfl rfl ?_
  refine vc_isBool (rfl) ?_
  refine vc_isBool (rfl) ?_
  refine vc_ltlen rfl (by decide) ?_
  refine vc_isBool (rfl) ?_
  refine vc_get (x := IK .u8 1) (by exact fun _ => rfl) rfl rfl ?_
  refine vc_isBool (rfl) ?_
  refine vc_cmp (op := .eql) (k := .u8) (x := 1) (y := 1) (t := true) (by exact fun _ => rfl) (by exact fun _ => rfl) rfl rfl ?_
  refine vc_isBool (rfl) ?_
  refine vc_isBool (rfl) ?_
  refine vc_isBool (rfl) ?_
  refine vc_ltlen rfl (by decide) ?_
  refine vc_isBool (rfl) ?_
  refine vc_get (x := IK .u8 0) (by exact fun _ => rfl) rfl rfl ?_
  refine vc_isBool (rfl) ?_
  refine vc_cmp (op := .eql) (k := .u8) (x := 0) (y := 0) (t := true) (by exact fun _ => rfl) (by exact fun _ => rfl) rfl rfl ?_
  refine vc_isBool (rfl) ?_
  refine vc_isBool (rfl) ?_
  refine vc_call c_base (ds := []) (r := PV Ed.Bp) (fun _ => rfl) rfl (⟨rfl, rfl⟩) ?_
  refine vc_isBool (rfl) ?_
  refine vc_call c_goodP (ds := [PV Ed.Bp]) (r := Bo true) (fun _ => rfl) rfl (⟨_, rfl, rfl⟩) ?_
  refine vc_isBool (rfl) ?_
  refine vc_nil ?_
  refine JF.ret (by kernel_rfl) ?_
  refine hE.fin3 10 [Bo true, PV Ed.Bp, Bo true, IK .u8 0, Bo true, IK .u8 1, Bo true, I 32, bts [1, 0, 0, 0, 0, 0, 0, 0, 0, 0, 0, 0, 0, 0, 0, 0, 0, 0, 0, 0, 0, 0, 0, 0, 0, 0, 0, 0, 0, 0, 0, 0], PV ((0 : Pt))] rfl rfl (cm := []) (ds := [.v (.at (.one (.var 9)))]) (by kernel_rfl) rfl (.inr rfl) ?_
  refine vc_nil ?_
  show Bo true = _
  rfl

noncomputable def E_d9_0 : Option Ran := ex1 (cfg 8) (fun _ => none) 0 4000 30000 0 (inSt (v0)) [.c (bodyOf Try.f24)] .nor
theorem c_d9 : Ctr Try.prog glb0 24 v0 (Φ0 (fn [Ed.d])) := by
  refine ctr (C := cfg 8) mixed ti_ok Try.func24 (by kernel_rfl) ?_
  rintro ds r X Q hl ⟨rfl, rfl⟩ hE
  refine Jd.go2 (E := E_d9_0) 0 [] rfl rfl rfl [.call 21 ⟨none, [.one .v, .one .v], .two (.one .v)⟩ [.agg [.a (.lit (.int .u64 0)), .a (.lit (.int .u64 0)), .a (.lit (.int .u64 0)), .a (.lit (.int .u64 0))], .agg [.a (.lit (.int .u64 121665)), .a (.lit (.int .u64 0)), .a (.lit (.int .u64 0)), .a (.lit (.int .u64 0))]] 0, .call 22 ⟨none, [.one .v], .two (.one .v)⟩ [.agg [.a (.lit (.int .u64 121666)), .a (.lit (.int .u64 0)), .a (.lit (.int .u64 0)), .a (.lit (.int .u64 0))]] 1, .isAgg 0 4, .isAgg 1 4, .call 20 ⟨none, [.one (.sv 4)], .two (.one .v)⟩ [.one (.rc (.lst [.part 0 0 4, .part 0 1 4, .part 0 2 4, .part 0 3 4, .part 1 0 4, .part 1 1 4, .part 1 2 4, .part 1 3 4]))] 2, .isAgg 2 4] (by kernel_rfl) ?_
  refine vc_call c_SubF (ds := [fn [0], fn [121665]]) (r := fn [0 - 121665]) (fun _ => rfl) rfl (⟨_, _, rfl, rfl⟩) ?_
  refine vc_call c_invF (ds := [fn [121666]]) (r := fn [inv 121666]) (fun _ => rfl) rfl (⟨_, rfl, rfl⟩) ?_
  refine vc_isAgg rfl rfl rfl ?_
  refine vc_isAgg rfl rfl rfl ?_
  refine vc_call c_MulF (ds := [fn [0 - 121665, inv 121666]]) (r := fn [prodF [0 - 121665, inv 121666]]) (fun _ => rfl) rfl (⟨_, (Nat.le_of_ble_eq_true rfl), rfl, rfl⟩) ?_
  refine vc_isAgg rfl rfl rfl ?_
  refine vc_nil ?_
  refine JF.ret (by kernel_rfl) ?_
  refine hE.fin3 3 [fn [prodF [0 - 121665, inv 121666]], fn [inv 121666], fn [0 - 121665]] rfl rfl (cm := [.isAgg 2 4]) (ds := [.v (.at (.one (.var 2)))]) (by kernel_rfl) rfl (.inr rfl) ?_
  refine vc_isAgg rfl rfl rfl ?_
  refine vc_nil ?_
  show fn [prodF [0 - 121665, inv 121666]] = _
  rw [prod2, factor_eq]

noncomputable def E_pick_0 : Option Ran := ex1 (cfg 48) (fun n => if n = 2 then some true else none) 0 4000 30000 1 (inSt (v1v)) [.c (bodyOf Try.f26)] .nor
noncomputable def E_pick_1 : Option Ran := ex1 (cfg 48) (fun n => if n = 2 then some false else if n = 3 then some true else none) 0 4000 50000 1 (inSt (v1v)) [.c (bodyOf Try.f26)] .nor
noncomputable def E_pick_2 : Option Ran := ex1 (cfg 48) (fun n => if n = 2 then some false else if n = 3 then some false else if n = 4 then some true else if n = 8 then some false else none) 0 4000 70000 1 (inSt (v1v)) [.c (bodyOf Try.f26)] .nor
noncomputable def E_pick_3 : Option Ran := ex1 (cfg 48) (fun n => if n = 2 then some false else if n = 3 then some false else if n = 4 then some true else if n = 8 then some true else none) 0 4000 90000 1 (inSt (v1v)) [.c (bodyOf Try.f26)] .nor
noncomputable def E_pick_4 : Option Ran := ex1 (cfg 48) (fun n => if n = 2 then some false else if n = 3 then some false else if n = 4 then some false else if n = 5 then some true else if n = 9 then some false else none) 0 4000 110000 1 (inSt (v1v)) [.c (bodyOf Try.f26)] .nor
noncomputable def E_pick_5 : Option Ran := ex1 (cfg 48) (fun n => if n = 2 then some false else if n = 3 then some false else if n = 4 then some false else if n = 5 then some true else if n = 9 then some true else none) 0 4000 130000 1 (inSt (v1v)) [.c (bodyOf Try.f26)] .nor
noncomputable def E_pick_6 : Option Ran := ex1 (cfg 48) (fun n => if n = 2 then some false else if n = 3 then some false else if n = 4 then some false else if n = 5 then some false else none) 0 4000 150000 1 (inSt (v1v)) [.c (bodyOf Try.f26)] .nor
theorem c_pick : Ctr Try.prog glb0 26 v1v Φpick := by
  refine ctr (C := cfg 48) mixed ti_ok Try.func26 (by kernel_rfl) ?_
  rintro ds r X Q hl ⟨b, hb, h32, rfl, rfl⟩ hE
  obtain ⟨b0, b1, b2, b3, b4, b5, b6, b7, b8, b9, b10, b11, b12, b13, b14, b15, b16, b17, b18, b19, b20, b21, b22, b23, b24, b25, b26, b27, b28, b29, b30, b31, rfl⟩ := list32 h32
  have q0 := hb b0 (by simp)
  have q1 := hb b1 (by simp)
  have nn : nums [b0 + 18446744073709551616 * b1] = Value.agg #[U b0, U b1, U 0, U 0] := nums_words (by omega) (by omega) (by decide) (by decide) (by omega)
  by_cases m0 : b31 % 8 = 0
  · refine Jd.go2 (E := E_pick_0) 1 [bts [b0, b1, b2, b3, b4, b5, b6, b7, b8, b9, b10, b11, b12, b13, b14, b15, b16, b17, b18, b19, b20, b21, b22, b23, b24, b25, b26, b27, b28, b29, b30, b31]] rfl rfl rfl [.isAgg 0 32, .bin .rem 5 (.at (.one (.part 0 31 32))) (.at (.one (.lit (.int .u8 8)))) 1, .bin .eql 5 (.at (.one (.var 1))) (.at (.one (.lit (.int .u8 0)))) 2, .isBool 2 true, .call 36 ⟨none, [], .two (.one .v)⟩ [] 3, .isAgg 3 8] (by kernel_rfl) ?_
    refine vc_isAgg rfl rfl rfl ?_
    refine vc_remU (k := .u8) (x := b31) (y := 8) (by exact fun _ => rfl) (by exact fun _ => rfl) (by decide) rfl ?_
    refine vc_cmp (op := .eql) (k := .u8) (x := b31 % 8) (y := (0 : Nat)) (t := decide (b31 % 8 = 0)) (by exact fun _ => rfl) (by exact fun _ => rfl) rfl rfl ?_
    refine vc_isBool (by show Bo (decide _) = _; rw [decide_eq_true m0]; rfl) ?_
    refine vc_call c_naught (ds := []) (r := PV ((0 : Pt))) (fun _ => rfl) rfl (⟨rfl, rfl⟩) ?_
    refine vc_isAgg rfl rfl rfl ?_
    refine vc_nil ?_
    refine JF.ret (by kernel_rfl) ?_
    refine hE.fin3 4 [PV ((0 : Pt)), Bo (decide (b31 % 8 = 0)), IK .u8 (b31 % 8), bts [b0, b1, b2, b3, b4, b5, b6, b7, b8, b9, b10, b11, b12, b13, b14, b15, b16, b17, b18, b19, b20, b21, b22, b23, b24, b25, b26, b27, b28, b29, b30, b31]] rfl rfl (cm := [.isAgg 3 8]) (ds := [.v (.at (.one (.var 3)))]) (by kernel_rfl) rfl (.inr rfl) ?_
    refine vc_isAgg rfl rfl rfl ?_
    refine vc_nil ?_
    show PV ((0 : Pt)) = _
    show _ = PV (pickP [b0, b1, b2, b3, b4, b5, b6, b7, b8, b9, b10, b11, b12, b13, b14, b15, b16, b17, b18, b19, b20, b21, b22, b23, b24, b25, b26, b27, b28, b29, b30, b31])
    unfold pickP
    show _ = PV (if b31 % 8 = 0 then _ else if b31 % 8 = 1 then _ else if b31 % 8 = 2 then _ else if b31 % 8 = 3 then _ else _)
    rw [if_pos m0]
  · by_cases m1 : b31 % 8 = 1
    · refine Jd.go2 (E := E_pick_1) 1 [bts [b0, b1, b2, b3, b4, b5, b6, b7, b8, b9, b10, b11, b12, b13, b14, b15, b16, b17, b18, b19, b20, b21, b22, b23, b24, b25, b26, b27, b28, b29, b30, b31]] rfl rfl rfl [.isAgg 0 32, .bin .rem 5 (.at (.one (.part 0 31 32))) (.at (.one (.lit (.int .u8 8)))) 1, .bin .eql 5 (.at (.one (.var 1))) (.at (.one (.lit (.int .u8 0)))) 2, .isBool 2 false, .bin .eql 5 (.at (.one (.var 1))) (.at (.one (.lit (.int .u8 1)))) 3, .isBool 3 true, .call 21 ⟨none, [.one .v, .one .v], .two (.one .v)⟩ [.agg [.a (.lit (.int .u64 0)), .a (.lit (.int .u64 0)), .a (.lit (.int .u64 0)), .a (.lit (.int .u64 0))], .agg [.a (.lit (.int .u64 1)), .a (.lit (.int .u64 0)), .a (.lit (.int .u64 0)), .a (.lit (.int .u64 0))]] 4, .isAgg 4 4] (by kernel_rfl) ?_
      refine vc_isAgg rfl rfl rfl ?_
      refine vc_remU (k := .u8) (x := b31) (y := 8) (by exact fun _ => rfl) (by exact fun _ => rfl) (by decide) rfl ?_
      refine vc_cmp (op := .eql) (k := .u8) (x := b31 % 8) (y := (0 : Nat)) (t := decide (b31 % 8 = 0)) (by exact fun _ => rfl) (by exact fun _ => rfl) rfl rfl ?_
      refine vc_isBool (by show Bo (decide _) = _; rw [decide_eq_false m0]; rfl) ?_
      refine vc_cmp (op := .eql) (k := .u8) (x := b31 % 8) (y := (1 : Nat)) (t := decide (b31 % 8 = 1)) (by exact fun _ => rfl) (by exact fun _ => rfl) rfl rfl ?_
      refine vc_isBool (by show Bo (decide _) = _; rw [decide_eq_true m1]; rfl) ?_
      refine vc_call c_SubF (ds := [fn [0], fn [1]]) (r := fn [0 - 1]) (fun _ => rfl) rfl (⟨_, _, rfl, rfl⟩) ?_
      refine vc_isAgg rfl rfl rfl ?_
      refine vc_nil ?_
      refine JF.ret (by kernel_rfl) ?_
      refine hE.fin3 5 [fn [0 - 1], Bo (decide (b31 % 8 = 1)), Bo (decide (b31 % 8 = 0)), IK .u8 (b31 % 8), bts [b0, b1, b2, b3, b4, b5, b6, b7, b8, b9, b10, b11, b12, b13, b14, b15, b16, b17, b18, b19, b20, b21, b22, b23, b24, b25, b26, b27, b28, b29, b30, b31]] rfl rfl (cm := []) (ds := [.v (.at (.agg [.lit (.int .u64 0), .lit (.int .u64 0), .lit (.int .u64 0), .lit (.int .u64 0), .part 4 0 4, .part 4 1 4, .part 4 2 4, .part 4 3 4]))]) (by kernel_rfl) rfl (.inr rfl) ?_
      refine vc_nil ?_
      show fn [0, 0 - 1] = _
      show _ = PV (pickP [b0, b1, b2, b3, b4, b5, b6, b7, b8, b9, b10, b11, b12, b13, b14, b15, b16, b17, b18, b19, b20, b21, b22, b23, b24, b25, b26, b27, b28, b29, b30, b31])
      unfold pickP
      show _ = PV (if b31 % 8 = 0 then _ else if b31 % 8 = 1 then _ else if b31 % 8 = 2 then _ else if b31 % 8 = 3 then _ else _)
      rw [if_neg m0, if_pos m1]
      exact Pn_PV
    · by_cases m2 : b31 % 8 = 2
      · rcases hr : Ed.readP true 0 with n | p
        · have hn0 : n ≠ 0 := by have := readP_err hr; omega
          refine Jd.go2 (E := E_pick_2) 1 [bts [b0, b1, b2, b3, b4, b5, b6, b7, b8, b9, b10, b11, b12, b13, b14, b15, b16, b17, b18, b19, b20, b21, b22, b23, b24, b25, b26, b27, b28, b29, b30, b31]] rfl rfl rfl [.isAgg 0 32, .bin .rem 5 (.at (.one (.part 0 31 32))) (.at (.one (.lit (.int .u8 8)))) 1, .bin .eql 5 (.at (.one (.var 1))) (.at (.one (.lit (.int .u8 0)))) 2, .isBool 2 false, .bin .eql 5 (.at (.one (.var 1))) (.at (.one (.lit (.int .u8 1)))) 3, .isBool 3 false, .bin .eql 5 (.at (.one (.var 1))) (.at (.one (.lit (.int .u8 2)))) 4, .isBool 4 true, .call 13 ⟨none, [.one (.sv 1)], .tup [.one .v, .one .v]⟩ [.one (.rc (.lst [.lit (.int .u8 0), .lit (.int .u8 0), .lit (.int .u8 0), .lit (.int .u8 0), .lit (.int .u8 0), .lit (.int .u8 0), .lit (.int .u8 0), .lit (.int .u8 0), .lit (.int .u8 0), .lit (.int .u8 0), .lit (.int .u8 0), .lit (.int .u8 0), .lit (.int .u8 0), .lit (.int .u8 0), .lit (.int .u8 0), .lit (.int .u8 0), .lit (.int .u8 0), .lit (.int .u8 0), .lit (.int .u8 0), .lit (.int .u8 0), .lit (.int .u8 0), .lit (.int .u8 0), .lit (.int .u8 0), .lit (.int .u8 0), .lit (.int .u8 0), .lit (.int .u8 0), .lit (.int .u8 0), .lit (.int .u8 0), .lit (.int .u8 0), .lit (.int .u8 0), .lit (.int .u8 0), .lit (.int .u8 0)]))] 5, .tupc 5 0 6, .tupc 5 1 7, .isAgg 6 8, .bin .eql 29 (.at (.one (.var 7))) (.at (.one (.lit (.int .i64 0)))) 8, .isBool 8 false, .call 40 ⟨none, [], .two (.one .v)⟩ [] 9, .conv 5 24 (.at (.one (.part 0 0 32))) 10, .conv 5 24 (.at (.one (.part 0 1 32))) 11, .isOne (.var 10), .isOne (.var 11), .call 28 ⟨none, [.one .v, .one .v], .two (.one .v)⟩ [.one (.a (.var 9)), .agg [.a (.var 10), .a (.var 11), .a (.lit (.int .u64 0)), .a (.lit (.int .u64 0))]] 12, .isAgg 12 8] (by kernel_rfl) ?_
          refine vc_isAgg rfl rfl rfl ?_
          refine vc_remU (k := .u8) (x := b31) (y := 8) (by exact fun _ => rfl) (by exact fun _ => rfl) (by decide) rfl ?_
          refine vc_cmp (op := .eql) (k := .u8) (x := b31 % 8) (y := (0 : Nat)) (t := decide (b31 % 8 = 0)) (by exact fun _ => rfl) (by exact fun _ => rfl) rfl rfl ?_
          refine vc_isBool (by show Bo (decide _) = _; rw [decide_eq_false m0]; rfl) ?_
          refine vc_cmp (op := .eql) (k := .u8) (x := b31 % 8) (y := (1 : Nat)) (t := decide (b31 % 8 = 1)) (by exact fun _ => rfl) (by exact fun _ => rfl) rfl rfl ?_
          refine vc_isBool (by show Bo (decide _) = _; rw [decide_eq_false m1]; rfl) ?_
          refine vc_cmp (op := .eql) (k := .u8) (x := b31 % 8) (y := (2 : Nat)) (t := decide (b31 % 8 = 2)) (by exact fun _ => rfl) (by exact fun _ => rfl) rfl rfl ?_
          refine vc_isBool (by show Bo (decide _) = _; rw [decide_eq_true m2]; rfl) ?_
          refine vc_call c_readP32 (ds := [bts [0, 0, 0, 0, 0, 0, 0, 0, 0, 0, 0, 0, 0, 0, 0, 0, 0, 0, 0, 0, 0, 0, 0, 0, 0, 0, 0, 0, 0, 0, 0, 0]]) (r := Value.tuple #[nums [0, 0], I n]) (fun _ => rfl) rfl (⟨_, (by intro b hb; simp at hb; omega), rfl, rfl, by rw [read_zero, hr]; rfl⟩) ?_
          refine vc_tupc (fun _ => rfl) rfl rfl ?_
          refine vc_tupc (fun _ => rfl) rfl rfl ?_
          refine vc_isAgg rfl rfl rfl ?_
          refine vc_cmp (op := .eql) (k := .i64) (x := n) (y := (0 : Nat)) (t := false) (by exact fun _ => rfl) (by exact fun _ => rfl) rfl (by simp [hn0]) ?_
          refine vc_isBool (rfl) ?_
          refine vc_call c_base (ds := []) (r := PV Ed.Bp) (fun _ => rfl) rfl (⟨rfl, rfl⟩) ?_
          refine vc_conv_u64 (q := .u8) (x := b0) (by kernel_rfl) (by kernel_rfl) (by exact fun _ => rfl) (by omega) rfl ?_
          refine vc_conv_u64 (q := .u8) (x := b1) (by kernel_rfl) (by kernel_rfl) (by exact fun _ => rfl) (by omega) rfl ?_
          refine vc_isOne rfl ?_
          refine vc_isOne rfl ?_
          refine vc_call c_timesP (ds := [PV Ed.Bp, Value.agg #[U b0, U b1, U 0, U 0]]) (r := PV (Ed.smul (b0 + 18446744073709551616 * b1) Ed.Bp)) (fun _ => rfl) rfl (⟨_, _, by omega, by rw [nn], rfl⟩) ?_
          refine vc_isAgg rfl rfl rfl ?_
          refine vc_nil ?_
          refine JF.ret (by kernel_rfl) ?_
          refine hE.fin3 13 [PV (Ed.smul (b0 + 18446744073709551616 * b1) Ed.Bp), U b1, U b0, PV Ed.Bp, Bo false, I n, nums [0, 0], Value.tuple #[nums [0, 0], I n], Bo (decide (b31 % 8 = 2)), Bo (decide (b31 % 8 = 1)), Bo (decide (b31 % 8 = 0)), IK .u8 (b31 % 8), bts [b0, b1, b2, b3, b4, b5, b6, b7, b8, b9, b10, b11, b12, b13, b14, b15, b16, b17, b18, b19, b20, b21, b22, b23, b24, b25, b26, b27, b28, b29, b30, b31]] rfl rfl (cm := [.isAgg 12 8]) (ds := [.v (.at (.one (.var 12)))]) (by kernel_rfl) rfl (.inr rfl) ?_
          refine vc_isAgg rfl rfl rfl ?_
          refine vc_nil ?_
          show PV (Ed.smul (b0 + 18446744073709551616 * b1) Ed.Bp) = _
          show _ = PV (pickP [b0, b1, b2, b3, b4, b5, b6, b7, b8, b9, b10, b11, b12, b13, b14, b15, b16, b17, b18, b19, b20, b21, b22, b23, b24, b25, b26, b27, b28, b29, b30, b31])
          unfold pickP
          show _ = PV (if b31 % 8 = 0 then _ else if b31 % 8 = 1 then _ else if b31 % 8 = 2 then _ else if b31 % 8 = 3 then _ else _)
          rw [if_neg m0, if_neg m1, if_pos m2, hr]
          rfl
        · refine Jd.go2 (E := E_pick_3) 1 [bts [b0, b1, b2, b3, b4, b5, b6, b7, b8, b9, b10, b11, b12, b13, b14, b15, b16, b17, b18, b19, b20, b21, b22, b23, b24, b25, b26, b27, b28, b29, b30, b31]] rfl rfl rfl [.isAgg 0 32, .bin .rem 5 (.at (.one (.part 0 31 32))) (.at (.one (.lit (.int .u8 8)))) 1, .bin .eql 5 (.at (.one (.var 1))) (.at (.one (.lit (.int .u8 0)))) 2, .isBool 2 false, .bin .eql 5 (.at (.one (.var 1))) (.at (.one (.lit (.int .u8 1)))) 3, .isBool 3 false, .bin .eql 5 (.at (.one (.var 1))) (.at (.one (.lit (.int .u8 2)))) 4, .isBool 4 true, .call 13 ⟨none, [.one (.sv 1)], .tup [.one .v, .one .v]⟩ [.one (.rc (.lst [.lit (.int .u8 0), .lit (.int .u8 0), .lit (.int .u8 0), .lit (.int .u8 0), .lit (.int .u8 0), .lit (.int .u8 0), .lit (.int .u8 0), .lit (.int .u8 0), .lit (.int .u8 0), .lit (.int .u8 0), .lit (.int .u8 0), .lit (.int .u8 0), .lit (.int .u8 0), .lit (.int .u8 0), .lit (.int .u8 0), .lit (.int .u8 0), .lit (.int .u8 0), .lit (.int .u8 0), .lit (.int .u8 0), .lit (.int .u8 0), .lit (.int .u8 0), .lit (.int .u8 0), .lit (.int .u8 0), .lit (.int .u8 0), .lit (.int .u8 0), .lit (.int .u8 0), .lit (.int .u8 0), .lit (.int .u8 0), .lit (.int .u8 0), .lit (.int .u8 0), .lit (.int .u8 0), .lit (.int .u8 0)]))] 5, .tupc 5 0 6, .tupc 5 1 7, .isAgg 6 8, .bin .eql 29 (.at (.one (.var 7))) (.at (.one (.lit (.int .i64 0)))) 8, .isBool 8 true, .isAgg 6 8, .isAgg 6 8] (by kernel_rfl) ?_
          refine vc_isAgg rfl rfl rfl ?_
          refine vc_remU (k := .u8) (x := b31) (y := 8) (by exact fun _ => rfl) (by exact fun _ => rfl) (by decide) rfl ?_
          refine vc_cmp (op := .eql) (k := .u8) (x := b31 % 8) (y := (0 : Nat)) (t := decide (b31 % 8 = 0)) (by exact fun _ => rfl) (by exact fun _ => rfl) rfl rfl ?_
          refine vc_isBool (by show Bo (decide _) = _; rw [decide_eq_false m0]; rfl) ?_
          refine vc_cmp (op := .eql) (k := .u8) (x := b31 % 8) (y := (1 : Nat)) (t := decide (b31 % 8 = 1)) (by exact fun _ => rfl) (by exact fun _ => rfl) rfl rfl ?_
          refine vc_isBool (by show Bo (decide _) = _; rw [decide_eq_false m1]; rfl) ?_
          refine vc_cmp (op := .eql) (k := .u8) (x := b31 % 8) (y := (2 : Nat)) (t := decide (b31 % 8 = 2)) (by exact fun _ => rfl) (by exact fun _ => rfl) rfl rfl ?_
          refine vc_isBool (by show Bo (decide _) = _; rw [decide_eq_true m2]; rfl) ?_
          refine vc_call c_readP32 (ds := [bts [0, 0, 0, 0, 0, 0, 0, 0, 0, 0, 0, 0, 0, 0, 0, 0, 0, 0, 0, 0, 0, 0, 0, 0, 0, 0, 0, 0, 0, 0, 0, 0]]) (r := Value.tuple #[PV p, I 0]) (fun _ => rfl) rfl (⟨_, (by intro b hb; simp at hb; omega), rfl, rfl, by rw [read_zero, hr]; rfl⟩) ?_
          refine vc_tupc (fun _ => rfl) rfl rfl ?_
          refine vc_tupc (fun _ => rfl) rfl rfl ?_
          refine vc_isAgg rfl rfl rfl ?_
          refine vc_cmp (op := .eql) (k := .i64) (x := 0) (y := (0 : Nat)) (t := true) (by exact fun _ => rfl) (by exact fun _ => rfl) rfl rfl ?_
          refine vc_isBool (rfl) ?_
          refine vc_isAgg rfl rfl rfl ?_
          refine vc_isAgg rfl rfl rfl ?_
          refine vc_nil ?_
          refine JF.ret (by kernel_rfl) ?_
          refine hE.fin3 9 [Bo true, I 0, PV p, Value.tuple #[PV p, I 0], Bo (decide (b31 % 8 = 2)), Bo (decide (b31 % 8 = 1)), Bo (decide (b31 % 8 = 0)), IK .u8 (b31 % 8), bts [b0, b1, b2, b3, b4, b5, b6, b7, b8, b9, b10, b11, b12, b13, b14, b15, b16, b17, b18, b19, b20, b21, b22, b23, b24, b25, b26, b27, b28, b29, b30, b31]] rfl rfl (cm := [.isAgg 6 8]) (ds := [.v (.at (.one (.var 6)))]) (by kernel_rfl) rfl (.inr rfl) ?_
          refine vc_isAgg rfl rfl rfl ?_
          refine vc_nil ?_
          show PV p = _
          show _ = PV (pickP [b0, b1, b2, b3, b4, b5, b6, b7, b8, b9, b10, b11, b12, b13, b14, b15, b16, b17, b18, b19, b20, b21, b22, b23, b24, b25, b26, b27, b28, b29, b30, b31])
          unfold pickP
          show _ = PV (if b31 % 8 = 0 then _ else if b31 % 8 = 1 then _ else if b31 % 8 = 2 then _ else if b31 % 8 = 3 then _ else _)
          rw [if_neg m0, if_neg m1, if_pos m2, hr]
          rfl
      · by_cases m3 : b31 % 8 = 3
        · rcases hr : Ed.readP true (le [b0, b1, b2, b3, b4, b5, b6, b7, b8, b9, b10, b11, b12, b13, b14, b15, b16, b17, b18, b19, b20, b21, b22, b23, b24, b25, b26, b27, b28, b29, b30, b31]) with n | p
          · have hn0 : n ≠ 0 := by have := readP_err hr; omega
            refine Jd.go2 (E := E_pick_4) 1 [bts [b0, b1, b2, b3, b4, b5, b6, b7, b8, b9, b10, b11, b12, b13, b14, b15, b16, b17, b18, b19, b20, b21, b22, b23, b24, b25, b26, b27, b28, b29, b30, b31]] rfl rfl rfl [.isAgg 0 32, .bin .rem 5 (.at (.one (.part 0 31 32))) (.at (.one (.lit (.int .u8 8)))) 1, .bin .eql 5 (.at (.one (.var 1))) (.at (.one (.lit (.int .u8 0)))) 2, .isBool 2 false, .bin .eql 5 (.at (.one (.var 1))) (.at (.one (.lit (.int .u8 1)))) 3, .isBool 3 false, .bin .eql 5 (.at (.one (.var 1))) (.at (.one (.lit (.int .u8 2)))) 4, .isBool 4 false, .bin .eql 5 (.at (.one (.var 1))) (.at (.one (.lit (.int .u8 3)))) 5, .isBool 5 true, .call 13 ⟨none, [.one (.sv 1)], .tup [.one .v, .one .v]⟩ [.one (.rc (.lst [.part 0 0 32, .part 0 1 32, .part 0 2 32, .part 0 3 32, .part 0 4 32, .part 0 5 32, .part 0 6 32, .part 0 7 32, .part 0 8 32, .part 0 9 32, .part 0 10 32, .part 0 11 32, .part 0 12 32, .part 0 13 32, .part 0 14 32, .part 0 15 32, .part 0 16 32, .part 0 17 32, .part 0 18 32, .part 0 19 32, .part 0 20 32, .part 0 21 32, .part 0 22 32, .part 0 23 32, .part 0 24 32, .part 0 25 32, .part 0 26 32, .part 0 27 32, .part 0 28 32, .part 0 29 32, .part 0 30 32, .part 0 31 32]))] 6, .tupc 6 0 7, .tupc 6 1 8, .isAgg 7 8, .bin .eql 29 (.at (.one (.var 8))) (.at (.one (.lit (.int .i64 0)))) 9, .isBool 9 false, .call 40 ⟨none, [], .two (.one .v)⟩ [] 10, .conv 5 24 (.at (.one (.part 0 0 32))) 11, .conv 5 24 (.at (.one (.part 0 1 32))) 12, .isOne (.var 11), .isOne (.var 12), .call 28 ⟨none, [.one .v, .one .v], .two (.one .v)⟩ [.one (.a (.var 10)), .agg [.a (.var 11), .a (.var 12), .a (.lit (.int .u64 0)), .a (.lit (.int .u64 0))]] 13, .isAgg 13 8] (by kernel_rfl) ?_
            refine vc_isAgg rfl rfl rfl ?_
            refine vc_remU (k := .u8) (x := b31) (y := 8) (by exact fun _ => rfl) (by exact fun _ => rfl) (by decide) rfl ?_
            refine vc_cmp (op := .eql) (k := .u8) (x := b31 % 8) (y := (0 : Nat)) (t := decide (b31 % 8 = 0)) (by exact fun _ => rfl) (by exact fun _ => rfl) rfl rfl ?_
            refine vc_isBool (by show Bo (decide _) = _; rw [decide_eq_false m0]; rfl) ?_
            refine vc_cmp (op := .eql) (k := .u8) (x := b31 % 8) (y := (1 : Nat)) (t := decide (b31 % 8 = 1)) (by exact fun _ => rfl) (by exact fun _ => rfl) rfl rfl ?_
            refine vc_isBool (by show Bo (decide _) = _; rw [decide_eq_false m1]; rfl) ?_
            refine vc_cmp (op := .eql) (k := .u8) (x := b31 % 8) (y := (2 : Nat)) (t := decide (b31 % 8 = 2)) (by exact fun _ => rfl) (by exact fun _ => rfl) rfl rfl ?_
            refine vc_isBool (by show Bo (decide _) = _; rw [decide_eq_false m2]; rfl) ?_
            refine vc_cmp (op := .eql) (k := .u8) (x := b31 % 8) (y := (3 : Nat)) (t := decide (b31 % 8 = 3)) (by exact fun _ => rfl) (by exact fun _ => rfl) rfl rfl ?_
            refine vc_isBool (by show Bo (decide _) = _; rw [decide_eq_true m3]; rfl) ?_
            refine vc_call c_readP32 (ds := [bts [b0, b1, b2, b3, b4, b5, b6, b7, b8, b9, b10, b11, b12, b13, b14, b15, b16, b17, b18, b19, b20, b21, b22, b23, b24, b25, b26, b27, b28, b29, b30, b31]]) (r := Value.tuple #[nums [0, 0], I n]) (fun _ => rfl) rfl (⟨_, hb, rfl, rfl, by rw [hr]; rfl⟩) ?_
            refine vc_tupc (fun _ => rfl) rfl rfl ?_
            refine vc_tupc (fun _ => rfl) rfl rfl ?_
            refine vc_isAgg rfl rfl rfl ?_
            refine vc_cmp (op := .eql) (k := .i64) (x := n) (y := (0 : Nat)) (t := false) (by exact fun _ => rfl) (by exact fun _ => rfl) rfl (by simp [hn0]) ?_
            refine vc_isBool (rfl) ?_
            refine vc_call c_base (ds := []) (r := PV Ed.Bp) (fun _ => rfl) rfl (⟨rfl, rfl⟩) ?_
            refine vc_conv_u64 (q := .u8) (x := b0) (by kernel_rfl) (by kernel_rfl) (by exact fun _ => rfl) (by omega) rfl ?_
            refine vc_conv_u64 (q := .u8) (x := b1) (by kernel_rfl) (by kernel_rfl) (by exact fun _ => rfl) (by omega) rfl ?_
            refine vc_isOne rfl ?_
            refine vc_isOne rfl ?_
            refine vc_call c_timesP (ds := [PV Ed.Bp, Value.agg #[U b0, U b1, U 0, U 0]]) (r := PV (Ed.smul (b0 + 18446744073709551616 * b1) Ed.Bp)) (fun _ => rfl) rfl (⟨_, _, by omega, by rw [nn], rfl⟩) ?_
            refine vc_isAgg rfl rfl rfl ?_
            refine vc_nil ?_
            refine JF.ret (by kernel_rfl) ?_
            refine hE.fin3 14 [PV (Ed.smul (b0 + 18446744073709551616 * b1) Ed.Bp), U b1, U b0, PV Ed.Bp, Bo false, I n, nums [0, 0], Value.tuple #[nums [0, 0], I n], Bo (decide (b31 % 8 = 3)), Bo (decide (b31 % 8 = 2)), Bo (decide (b31 % 8 = 1)), Bo (decide (b31 % 8 = 0)), IK .u8 (b31 % 8), bts [b0, b1, b2, b3, b4, b5, b6, b7, b8, b9, b10, b11, b12, b13, b14, b15, b16, b17, b18, b19, b20, b21, b22, b23, b24, b25, b26, b27, b28, b29, b30, b31]] rfl rfl (cm := [.isAgg 13 8]) (ds := [.v (.at (.one (.var 13)))]) (by kernel_rfl) rfl (.inr rfl) ?_
            refine vc_isAgg rfl rfl rfl ?_
            refine vc_nil ?_
            show PV (Ed.smul (b0 + 18446744073709551616 * b1) Ed.Bp) = _
            show _ = PV (pickP [b0, b1, b2, b3, b4, b5, b6, b7, b8, b9, b10, b11, b12, b13, b14, b15, b16, b17, b18, b19, b20, b21, b22, b23, b24, b25, b26, b27, b28, b29, b30, b31])
            unfold pickP
            show _ = PV (if b31 % 8 = 0 then _ else if b31 % 8 = 1 then _ else if b31 % 8 = 2 then _ else if b31 % 8 = 3 then _ else _)
            rw [if_neg m0, if_neg m1, if_neg m2, if_pos m3, hr]
            rfl
          · refine Jd.go2 (E := E_pick_5) 1 [bts [b0, b1, b2, b3, b4, b5, b6, b7, b8, b9, b10, b11, b12, b13, b14, b15, b16, b17, b18, b19, b20, b21, b22, b23, b24, b25, b26, b27, b28, b29, b30, b31]] rfl rfl rfl [.isAgg 0 32, .bin .rem 5 (.at (.one (.part 0 31 32))) (.at (.one (.lit (.int .u8 8)))) 1, .bin .eql 5 (.at (.one (.var 1))) (.at (.one (.lit (.int .u8 0)))) 2, .isBool 2 false, .bin .eql 5 (.at (.one (.var 1))) (.at (.one (.lit (.int .u8 1)))) 3, .isBool 3 false, .bin .eql 5 (.at (.one (.var 1))) (.at (.one (.lit (.int .u8 2)))) 4, .isBool 4 false, .bin .eql 5 (.at (.one (.var 1))) (.at (.one (.lit (.int .u8 3)))) 5, .isBool 5 true, .call 13 ⟨none, [.one (.sv 1)], .tup [.one .v, .one .v]⟩ [.one (.rc (.lst [.part 0 0 32, .part 0 1 32, .part 0 2 32, .part 0 3 32, .part 0 4 32, .part 0 5 32, .part 0 6 32, .part 0 7 32, .part 0 8 32, .part 0 9 32, .part 0 10 32, .part 0 11 32, .part 0 12 32, .part 0 13 32, .part 0 14 32, .part 0 15 32, .part 0 16 32, .part 0 17 32, .part 0 18 32, .part 0 19 32, .part 0 20 32, .part 0 21 32, .part 0 22 32, .part 0 23 32, .part 0 24 32, .part 0 25 32, .part 0 26 32, .part 0 27 32, .part 0 28 32, .part 0 29 32, .part 0 30 32, .part 0 31 32]))] 6, .tupc 6 0 7, .tupc 6 1 8, .isAgg 7 8, .bin .eql 29 (.at (.one (.var 8))) (.at (.one (.lit (.int .i64 0)))) 9, .isBool 9 true, .isAgg 7 8, .isAgg 7 8] (by kernel_rfl) ?_
            refine vc_isAgg rfl rfl rfl ?_
            refine vc_remU (k := .u8) (x := b31) (y := 8) (by exact fun _ => rfl) (by exact fun _ => rfl) (by decide) rfl ?_
            refine vc_cmp (op := .eql) (k := .u8) (x := b31 % 8) (y := (0 : Nat)) (t := decide (b31 % 8 = 0)) (by exact fun _ => rfl) (by exact fun _ => rfl) rfl rfl ?_
            refine vc_isBool (by show Bo (decide _) = _; rw [decide_eq_false m0]; rfl) ?_
            refine vc_cmp (op := .eql) (k := .u8) (x := b31 % 8) (y := (1 : Nat)) (t := decide (b31 % 8 = 1)) (by exact fun _ => rfl) (by exact fun _ => rfl) rfl rfl ?_
            refine vc_isBool (by show Bo (decide _) = _; rw [decide_eq_false m1]; rfl) ?_
            refine vc_cmp (op := .eql) (k := .u8) (x := b31 % 8) (y := (2 : Nat)) (t := decide (b31 % 8 = 2)) (by exact fun _ => rfl) (by exact fun _ => rfl) rfl rfl ?_
            refine vc_isBool (by show Bo (decide _) = _; rw [decide_eq_false m2]; rfl) ?_
            refine vc_cmp (op := .eql) (k := .u8) (x := b31 % 8) (y := (3 : Nat)) (t := decide (b31 % 8 = 3)) (by exact fun _ => rfl) (by exact fun _ => rfl) rfl rfl ?_
            refine vc_isBool (by show Bo (decide _) = _; rw [decide_eq_true m3]; rfl) ?_
            refine vc_call c_readP32 (ds := [bts [b0, b1, b2, b3, b4, b5, b6, b7, b8, b9, b10, b11, b12, b13, b14, b15, b16, b17, b18, b19, b20, b21, b22, b23, b24, b25, b26, b27, b28, b29, b30, b31]]) (r := Value.tuple #[PV p, I 0]) (fun _ => rfl) rfl (⟨_, hb, rfl, rfl, by rw [hr]; rfl⟩) ?_
            refine vc_tupc (fun _ => rfl) rfl rfl ?_
            refine vc_tupc (fun _ => rfl) rfl rfl ?_
            refine vc_isAgg rfl rfl rfl ?_
            refine vc_cmp (op := .eql) (k := .i64) (x := 0) (y := (0 : Nat)) (t := true) (by exact fun _ => rfl) (by exact fun _ => rfl) rfl rfl ?_
            refine vc_isBool (rfl) ?_
            refine vc_isAgg rfl rfl rfl ?_
            refine vc_isAgg rfl rfl rfl ?_
            refine vc_nil ?_
            refine JF.ret (by kernel_rfl) ?_
            refine hE.fin3 10 [Bo true, I 0, PV p, Value.tuple #[PV p, I 0], Bo (decide (b31 % 8 = 3)), Bo (decide (b31 % 8 = 2)), Bo (decide (b31 % 8 = 1)), Bo (decide (b31 % 8 = 0)), IK .u8 (b31 % 8), bts [b0, b1, b2, b3, b4, b5, b6, b7, b8, b9, b10, b11, b12, b13, b14, b15, b16, b17, b18, b19, b20, b21, b22, b23, b24, b25, b26, b27, b28, b29, b30, b31]] rfl rfl (cm := [.isAgg 7 8]) (ds := [.v (.at (.one (.var 7)))]) (by kernel_rfl) rfl (.inr rfl) ?_
            refine vc_isAgg rfl rfl rfl ?_
            refine vc_nil ?_
            show PV p = _
            show _ = PV (pickP [b0, b1, b2, b3, b4, b5, b6, b7, b8, b9, b10, b11, b12, b13, b14, b15, b16, b17, b18, b19, b20, b21, b22, b23, b24, b25, b26, b27, b28, b29, b30, b31])
            unfold pickP
            show _ = PV (if b31 % 8 = 0 then _ else if b31 % 8 = 1 then _ else if b31 % 8 = 2 then _ else if b31 % 8 = 3 then _ else _)
            rw [if_neg m0, if_neg m1, if_neg m2, if_pos m3, hr]
            rfl
        · refine Jd.go2 (E := E_pick_6) 1 [bts [b0, b1, b2, b3, b4, b5, b6, b7, b8, b9, b10, b11, b12, b13, b14, b15, b16, b17, b18, b19, b20, b21, b22, b23, b24, b25, b26, b27, b28, b29, b30, b31]] rfl rfl rfl [.isAgg 0 32, .bin .rem 5 (.at (.one (.part 0 31 32))) (.at (.one (.lit (.int .u8 8)))) 1, .bin .eql 5 (.at (.one (.var 1))) (.at (.one (.lit (.int .u8 0)))) 2, .isBool 2 false, .bin .eql 5 (.at (.one (.var 1))) (.at (.one (.lit (.int .u8 1)))) 3, .isBool 3 false, .bin .eql 5 (.at (.one (.var 1))) (.at (.one (.lit (.int .u8 2)))) 4, .isBool 4 false, .bin .eql 5 (.at (.one (.var 1))) (.at (.one (.lit (.int .u8 3)))) 5, .isBool 5 false, .call 40 ⟨none, [], .two (.one .v)⟩ [] 6, .conv 5 24 (.at (.one (.part 0 0 32))) 7, .conv 5 24 (.at (.one (.part 0 1 32))) 8, .isOne (.var 7), .isOne (.var 8), .call 28 ⟨none, [.one .v, .one .v], .two (.one .v)⟩ [.one (.a (.var 6)), .agg [.a (.var 7), .a (.var 8), .a (.lit (.int .u64 0)), .a (.lit (.int .u64 0))]] 9, .isAgg 9 8] (by kernel_rfl) ?_
          refine vc_isAgg rfl rfl rfl ?_
          refine vc_remU (k := .u8) (x := b31) (y := 8) (by exact fun _ => rfl) (by exact fun _ => rfl) (by decide) rfl ?_
          refine vc_cmp (op := .eql) (k := .u8) (x := b31 % 8) (y := (0 : Nat)) (t := decide (b31 % 8 = 0)) (by exact fun _ => rfl) (by exact fun _ => rfl) rfl rfl ?_
          refine vc_isBool (by show Bo (decide _) = _; rw [decide_eq_false m0]; rfl) ?_
          refine vc_cmp (op := .eql) (k := .u8) (x := b31 % 8) (y := (1 : Nat)) (t := decide (b31 % 8 = 1)) (by exact fun _ => rfl) (by exact fun _ => rfl) rfl rfl ?_
          refine vc_isBool (by show Bo (decide _) = _; rw [decide_eq_false m1]; rfl) ?_
          refine vc_cmp (op := .eql) (k := .u8) (x := b31 % 8) (y := (2 : Nat)) (t := decide (b31 % 8 = 2)) (by exact fun _ => rfl) (by exact fun _ => rfl) rfl rfl ?_
          refine vc_isBool (by show Bo (decide _) = _; rw [decide_eq_false m2]; rfl) ?_
          refine vc_cmp (op := .eql) (k := .u8) (x := b31 % 8) (y := (3 : Nat)) (t := decide (b31 % 8 = 3)) (by exact fun _ => rfl) (by exact fun _ => rfl) rfl rfl ?_
          refine vc_isBool (by show Bo (decide _) = _; rw [decide_eq_false m3]; rfl) ?_
          refine vc_call c_base (ds := []) (r := PV Ed.Bp) (fun _ => rfl) rfl (⟨rfl, rfl⟩) ?_
          refine vc_conv_u64 (q := .u8) (x := b0) (by kernel_rfl) (by kernel_rfl) (by exact fun _ => rfl) (by omega) rfl ?_
          refine vc_conv_u64 (q := .u8) (x := b1) (by kernel_rfl) (by kernel_rfl) (by exact fun _ => rfl) (by omega) rfl ?_
          refine vc_isOne rfl ?_
          refine vc_isOne rfl ?_
          refine vc_call c_timesP (ds := [PV Ed.Bp, Value.agg #[U b0, U b1, U 0, U 0]]) (r := PV (Ed.smul (b0 + 18446744073709551616 * b1) Ed.Bp)) (fun _ => rfl) rfl (⟨_, _, by omega, by rw [nn], rfl⟩) ?_
          refine vc_isAgg rfl rfl rfl ?_
          refine vc_nil ?_
          refine JF.ret (by kernel_rfl) ?_
          refine hE.fin3 10 [PV (Ed.smul (b0 + 18446744073709551616 * b1) Ed.Bp), U b1, U b0, PV Ed.Bp, Bo (decide (b31 % 8 = 3)), Bo (decide (b31 % 8 = 2)), Bo (decide (b31 % 8 = 1)), Bo (decide (b31 % 8 = 0)), IK .u8 (b31 % 8), bts [b0, b1, b2, b3, b4, b5, b6, b7, b8, b9, b10, b11, b12, b13, b14, b15, b16, b17, b18, b19, b20, b21, b22, b23, b24, b25, b26, b27, b28, b29, b30, b31]] rfl rfl (cm := [.isAgg 9 8]) (ds := [.v (.at (.one (.var 9)))]) (by kernel_rfl) rfl (.inr rfl) ?_
          refine vc_isAgg rfl rfl rfl ?_
          refine vc_nil ?_
          show PV (Ed.smul (b0 + 18446744073709551616 * b1) Ed.Bp) = _
          show _ = PV (pickP [b0, b1, b2, b3, b4, b5, b6, b7, b8, b9, b10, b11, b12, b13, b14, b15, b16, b17, b18, b19, b20, b21, b22, b23, b24, b25, b26, b27, b28, b29, b30, b31])
          unfold pickP
          show _ = PV (if b31 % 8 = 0 then _ else if b31 % 8 = 1 then _ else if b31 % 8 = 2 then _ else if b31 % 8 = 3 then _ else _)
          rw [if_neg m0, if_neg m1, if_neg m2, if_neg m3]
          rfl

end Go.Proofs.Ytpeafegfjhljmaa
