/- CurveTwice: n and m times a point, one behind the other, are n m times: for every input, without a condition. -/
import Derived.Test.YtpeafegfjhljmaaVS
import Derived.Test.YtpeafegfjhljmaaVP
import Derived.Test.YtpeafegfjhljmaaRows
/-
  Functions of the program: what each computes.
-/
open Go Go.Sx Go.Proofs
open Ed (F P inv pw Pt)
namespace Go.Proofs.Ytpeafegfjhljmaa
set_option maxRecDepth 100000
set_option maxHeartbeats 4000000
noncomputable def E_twice_0 : Option Ran := ex1 (cfg 30) (fun n => if n = 4 then some false else none) 0 4000 30000 3 (inSt (v3v)) [.c (bodyOf Try.f5)] .nor
theorem c_twice : Ctr Try.prog glb0 5 v3v (fun ds r => ∃ b n m, isB b ∧ b.length = 32 ∧ n < 2 ^ IntKind.bits .u16 ∧ m < 2 ^ IntKind.bits .u16 ∧ ds = [bts b, IK .u16 n, IK .u16 m] ∧ r = Bo true) := by
  refine ctr (C := cfg 30) mixed ti_ok Try.func5 (by kernel_rfl) ?_
  rintro ds r X Q hl ⟨b, n, m, hb, h32, hn, hm, rfl, rfl⟩ hE
  obtain ⟨b0, b1, b2, b3, b4, b5, b6, b7, b8, b9, b10, b11, b12, b13, b14, b15, b16, b17, b18, b19, b20, b21, b22, b23, b24, b25, b26, b27, b28, b29, b30, b31, rfl⟩ := list32 h32
  obtain ⟨p, hp⟩ : ∃ p, p = pickP [b0, b1, b2, b3, b4, b5, b6, b7, b8, b9, b10, b11, b12, b13, b14, b15, b16, b17, b18, b19, b20, b21, b22, b23, b24, b25, b26, b27, b28, b29, b30, b31] := ⟨_, rfl⟩
  rw [show (2 : Nat) ^ IntKind.bits .u16 = 65536 by decide] at hn hm
  have hnm : n * m ≤ 65535 * 65535 := Nat.mul_le_mul (by omega) (by omega)
  refine Jd.go2 (E := E_twice_0) 3 [IK .u16 m, IK .u16 n, bts [b0, b1, b2, b3, b4, b5, b6, b7, b8, b9, b10, b11, b12, b13, b14, b15, b16, b17, b18, b19, b20, b21, b22, b23, b24, b25, b26, b27, b28, b29, b30, b31]] rfl rfl rfl [.isAgg 0 32, .call 12 ⟨none, [], .two (.one .v)⟩ [] 3, .un .not (.at (.one (.var 3))) 4, .isBool 4 false, .isAgg 0 32, .call 26 ⟨none, [.one .v], .two (.one .v)⟩ [.one (.a (.var 0))] 5, .isAgg 5 8, .isAgg 5 8, .conv 55 24 (.at (.one (.var 1))) 6, .isOne (.var 6), .call 28 ⟨none, [.one .v, .one .v], .two (.one .v)⟩ [.one (.a (.var 5)), .agg [.a (.var 6), .a (.lit (.int .u64 0)), .a (.lit (.int .u64 0)), .a (.lit (.int .u64 0))]] 7, .conv 55 24 (.at (.one (.var 2))) 8, .isOne (.var 8), .call 28 ⟨none, [.one .v, .one .v], .two (.one .v)⟩ [.one (.a (.var 7)), .agg [.a (.var 8), .a (.lit (.int .u64 0)), .a (.lit (.int .u64 0)), .a (.lit (.int .u64 0))]] 9, .isAgg 5 8, .conv 55 24 (.at (.one (.var 1))) 10, .conv 55 24 (.at (.one (.var 2))) 11, .bin .mul 24 (.at (.one (.var 10))) (.at (.one (.var 11))) 12, .isOne (.var 12), .call 28 ⟨none, [.one .v, .one .v], .two (.one .v)⟩ [.one (.a (.var 5)), .agg [.a (.var 12), .a (.lit (.int .u64 0)), .a (.lit (.int .u64 0)), .a (.lit (.int .u64 0))]] 13, .bin .eql 28 (.at (.one (.var 9))) (.at (.one (.var 13))) 14] (by kernel_rfl) ?_
  refine vc_isAgg rfl rfl rfl ?_
  refine vc_call c_awake9 (ds := []) (r := Bo true) (fun _ => rfl) rfl (⟨rfl, rfl⟩) ?_
  refine vc_not (fun _ => rfl) rfl ?_
  refine vc_isBool (rfl) ?_
  refine vc_isAgg rfl rfl rfl ?_
  refine vc_call c_pick (ds := [bts [b0, b1, b2, b3, b4, b5, b6, b7, b8, b9, b10, b11, b12, b13, b14, b15, b16, b17, b18, b19, b20, b21, b22, b23, b24, b25, b26, b27, b28, b29, b30, b31]]) (r := PV p) (fun _ => rfl) rfl (⟨_, hb, rfl, rfl, by rw [hp]⟩) ?_
  refine vc_isAgg rfl rfl rfl ?_
  refine vc_isAgg rfl rfl rfl ?_
  refine vc_conv_u64 (q := .u16) (x := n) (by kernel_rfl) (by kernel_rfl) (by exact fun _ => rfl) (by omega) rfl ?_
  refine vc_isOne rfl ?_
  refine vc_call c_timesP (ds := [PV p, Value.agg #[U n, U 0, U 0, U 0]]) (r := PV (Ed.smul n p)) (fun _ => rfl) rfl (⟨_, _, by omega, by rw [nums_one (by omega)], rfl⟩) ?_
  refine vc_conv_u64 (q := .u16) (x := m) (by kernel_rfl) (by kernel_rfl) (by exact fun _ => rfl) (by omega) rfl ?_
  refine vc_isOne rfl ?_
  refine vc_call c_timesP (ds := [PV (Ed.smul n p), Value.agg #[U m, U 0, U 0, U 0]]) (r := PV (Ed.smul m (Ed.smul n p))) (fun _ => rfl) rfl (⟨_, _, by omega, by rw [nums_one (by omega)], rfl⟩) ?_
  refine vc_isAgg rfl rfl rfl ?_
  refine vc_conv_u64 (q := .u16) (x := n) (by kernel_rfl) (by kernel_rfl) (by exact fun _ => rfl) (by omega) rfl ?_
  refine vc_conv_u64 (q := .u16) (x := m) (by kernel_rfl) (by kernel_rfl) (by exact fun _ => rfl) (by omega) rfl ?_
  refine vc_mul64 (x := n) (y := m) (by exact fun _ => rfl) (by exact fun _ => rfl) rfl fun w hw => ?_
  rw [Nat.mod_eq_of_lt (by omega)] at hw
  refine vc_isOne rfl ?_
  refine vc_call c_timesP (ds := [PV p, Value.agg #[U w, U 0, U 0, U 0]]) (r := PV (Ed.smul w p)) (fun _ => rfl) rfl (⟨_, _, by omega, by rw [nums_one (by omega)], rfl⟩) ?_
  refine vc_eqlN (m := 2) eqT28 (xs := [(Ed.smul m (Ed.smul n p)).x.val, (Ed.smul m (Ed.smul n p)).y.val]) (ys := [(Ed.smul w p).x.val, (Ed.smul w p).y.val]) (by exact fun _ => rfl) (by exact fun _ => rfl) rfl rfl (bnd2 (F_lt _) (F_lt _)) (bnd2 (F_lt _) (F_lt _)) rfl ?_
  refine vc_nil ?_
  refine JF.ret (by kernel_rfl) ?_
  refine hE.fin3 15 [Bo (decide ([(Ed.smul m (Ed.smul n p)).x.val, (Ed.smul m (Ed.smul n p)).y.val] = [(Ed.smul w p).x.val, (Ed.smul w p).y.val])), PV (Ed.smul w p), U w, U m, U n, PV (Ed.smul m (Ed.smul n p)), U m, PV (Ed.smul n p), U n, PV p, Bo (!true), Bo true, IK .u16 m, IK .u16 n, bts [b0, b1, b2, b3, b4, b5, b6, b7, b8, b9, b10, b11, b12, b13, b14, b15, b16, b17, b18, b19, b20, b21, b22, b23, b24, b25, b26, b27, b28, b29, b30, b31]] rfl rfl (cm := []) (ds := [.v (.at (.one (.var 14)))]) (by kernel_rfl) rfl (.inr rfl) ?_
  refine vc_nil ?_
  show Bo (decide ([(Ed.smul m (Ed.smul n p)).x.val, (Ed.smul m (Ed.smul n p)).y.val] = [(Ed.smul w p).x.val, (Ed.smul w p).y.val])) = _
  rw [PV_dec, hw, Nat.mul_comm n m, Ed.smul_smul, decide_eq_true rfl]

end Go.Proofs.Ytpeafegfjhljmaa

/-
  CurveTwice: n and m times a point, one behind the other, are n m times: for every input, without a condition.
-/
open Go Go.Sx Go.Proofs Go.ChangeShapes Go.WideShapes Go.ChangeAt
open Ed (F P inv pw Pt)
namespace Go.Proofs.Ytpeafegfjhljmaa
set_option maxRecDepth 100000
set_option maxHeartbeats 4000000
theorem own : ownKnob Try.prog.godebug = none := by kernel_rfl
theorem laidOut : laidOutB Try.prog = true := by kernel_rfl
theorem twice_lifted (os : Os) (started : os.Started) (H : Type) (enc : TypeId × Value → H) :
    ReturnsInHanded {} Try.checked os 5 .any (Rows.curveTwiceSpec.pre6 enc Try.prog Try.f5 Rows.curveTwiceRow.domain false) (Rows.curveTwiceSpec.post enc Try.prog Try.f5 false true false false) := by
  refine returnsInHanded_of_change (C := Try.checked) own started (by kernel_rfl) Try.func5
    (ChangeSpec.witness6 (enc := enc) (C := Try.checked) false ⟨#[], #[.agg (List.replicate 32 (.int .u8 0)).toArray, .int .u16 0, .int .u16 0], []⟩ 100 (by kernel_rfl) (by kernel_rfl) (by kernel_rfl) (by kernel_rfl)) ?_
  intro W base args ds gs before hval hW hcnd _
  have hlt := hW.lt
  have hW0 := hW
  obtain ⟨p, q, hA, hV, rfl, hfz, hnd⟩ := hW0
  obtain ⟨rfl, rfl⟩ := trodVars_none hV
  replace hA : DataW.TrodAll enc Try.prog W 0 (fun _ => true) true [44, 55, 55] args.toList ds p := by rw [show Try.f5.params.toList = [44, 55, 55] by kernel_rfl] at hA; exact hA
  obtain ⟨v0, v1, v2, d0, d1, d2, p0, p1, p2, rfl, rfl, rfl, h0, h1, h2⟩ := trodAll_three hA
  obtain ⟨l0, rfl, l0l, l0b⟩ := open_arrN (n := 32) (e := 5) (k := .u8) (by kernel_rfl) (by kernel_rfl) (by kernel_rfl) (by kernel_rfl) rfl (hval 0 44 v0 (by kernel_rfl) rfl) h0
  replace l0b : isB l0 := fun x hx => l0b x hx
  obtain ⟨n1, rfl, n1l⟩ := open_uint (k := .u16) (by kernel_rfl) rfl (hval 1 55 v1 (by kernel_rfl) rfl) h1
  obtain ⟨n2, rfl, n2l⟩ := open_uint (k := .u16) (by kernel_rfl) rfl (hval 2 55 v2 (by kernel_rfl) rfl) h2
  have hcall := calls_of_ctr (A := fun _ => True) c_twice Try.func5 (by kernel_rfl) (by kernel_rfl) (w := W) (vs := [_, _, _]) (ds := [bts l0, IK .u16 n1, IK .u16 n2]) (r := Bo true) trivial ⟨rfl, rfl, rfl, trivial⟩ ⟨l0, n1, n2, l0b, l0l, n1l, n2l, rfl, rfl⟩
  refine hcall.mono ?_
  rintro e W' ⟨v, rfl, hr, hb⟩
  obtain rfl : v = Bo true := hr
  exact ⟨_, rfl, (law_post laidOut (by kernel_rfl) rfl (tb := 4) (by kernel_rfl) (by kernel_rfl) hW hb rfl).1⟩
theorem twice_holds : Rows.CurveTwiceSaid :=
  OpenClaim.holds_of_wide 5 Try.f5 rfl rfl rfl rfl rfl rfl rfl ⟨rfl, rfl, rfl, rfl, rfl⟩ rfl rfl rfl rfl rfl (by kernel_rfl) Try.func5 (by kernel_rfl)
    (of_decide_eq_true (by kernel_rfl)) (by unfold Func.isWrapper; rw [if_neg (by decide +kernel)]; exact ⟨rfl, rfl⟩)
    (fun os started H enc _ => twice_lifted os started H enc)
end Go.Proofs.Ytpeafegfjhljmaa
