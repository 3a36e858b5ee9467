/- CurveMinus: the point whose sum with a point is the naught: of that it is the point again; so many times it is that of so many times the point: for every input, without a condition. -/
import Derived.Test.YtpeafegfjhljmaaVS
import Derived.Test.YtpeafegfjhljmaaVP
import Derived.Test.YtpeafegfjhljmaaRows
/-
  Functions of the program: what each computes.
-/
open Go Go.Sx Go.Proofs
open Ed (F P inv pw Pt)
namespace Go.Proofs.Ytpeafegfjhljmaa
set_option maxRecDepth 100000
set_option maxHeartbeats 4000000
noncomputable def E_minus9_0 : Option Ran := ex1 (cfg 47) (fun n => if n = 3 then some false else if n = 7 then some true else if n = 9 then some true else if n = 13 then some true else none) 0 4000 30000 2 (inSt (v2v)) [.c (bodyOf Try.f8)] .nor
noncomputable def E_minus9_1 : Option Ran := ex1 (cfg 47) (fun n => if n = 3 then some false else if n = 7 then some true else if n = 9 then some true else if n = 13 then some true else none) 0 4000 50000 2 (inSt (v2v)) [.c (bodyOf Try.f8)] .nor
theorem c_minus9 : Ctr Try.prog glb0 8 v2v (fun ds r => ∃ lx ny, isB lx ∧ lx.length = 32 ∧ ny < 2 ^ IntKind.bits .u16 ∧ ds = [bts lx, IK .u16 ny] ∧ r = Bo true) := by
  refine ctr (C := cfg 47) mixed ti_ok Try.func8 (by kernel_rfl) ?_
  rintro ds r X Q hl ⟨lx, ny, hbx, h32x, hny, rfl, rfl⟩ hE
  obtain ⟨x0, x1, x2, x3, x4, x5, x6, x7, x8, x9, x10, x11, x12, x13, x14, x15, x16, x17, x18, x19, x20, x21, x22, x23, x24, x25, x26, x27, x28, x29, x30, x31, rfl⟩ := list32 h32x
  obtain ⟨p, hp⟩ : ∃ p, p = pickP [x0, x1, x2, x3, x4, x5, x6, x7, x8, x9, x10, x11, x12, x13, x14, x15, x16, x17, x18, x19, x20, x21, x22, x23, x24, x25, x26, x27, x28, x29, x30, x31] := ⟨_, rfl⟩
  rw [show (2 : Nat) ^ IntKind.bits .u16 = 65536 by decide] at hny
  refine Jd.go2 (E := E_minus9_1) 2 [IK .u16 ny, bts [x0, x1, x2, x3, x4, x5, x6, x7, x8, x9, x10, x11, x12, x13, x14, x15, x16, x17, x18, x19, x20, x21, x22, x23, x24, x25, x26, x27, x28, x29, x30, x31]] rfl rfl rfl [.isAgg 0 32, .call 12 ⟨none, [], .two (.one .v)⟩ [] 2, .un .not (.at (.one (.var 2))) 3, .isBool 3 false, .isAgg 0 32, .call 26 ⟨none, [.one .v], .two (.one .v)⟩ [.one (.a (.var 0))] 4, .isAgg 4 8, .isAgg 4 8, .call 35 ⟨none, [.one .v], .two (.one .v)⟩ [.one (.a (.var 4))] 5, .isAgg 5 8, .conv 55 24 (.at (.one (.var 1))) 6, .isOne (.var 6), .isAgg 5 8, .call 14 ⟨none, [.one .v], .two (.one .v)⟩ [.one (.a (.var 5))] 7, .isBool 7 true, .isAgg 5 8, .isBool 7 true, .call 35 ⟨none, [.one .v], .two (.one .v)⟩ [.one (.a (.var 5))] 8, .isBool 7 true, .isAgg 4 8, .isBool 7 true, .bin .eql 28 (.at (.one (.var 8))) (.at (.one (.var 4))) 9, .isBool 7 true, .isBool 9 true, .isAgg 5 8, .isBool 9 true, .isBool 9 true, .call 28 ⟨none, [.one .v, .one .v], .two (.one .v)⟩ [.one (.a (.var 5)), .agg [.a (.var 6), .a (.lit (.int .u64 0)), .a (.lit (.int .u64 0)), .a (.lit (.int .u64 0))]] 10, .isBool 9 true, .isAgg 4 8, .isBool 9 true, .isBool 9 true, .call 28 ⟨none, [.one .v, .one .v], .two (.one .v)⟩ [.one (.a (.var 4)), .agg [.a (.var 6), .a (.lit (.int .u64 0)), .a (.lit (.int .u64 0)), .a (.lit (.int .u64 0))]] 11, .isBool 9 true, .call 35 ⟨none, [.one .v], .two (.one .v)⟩ [.one (.a (.var 11))] 12, .isBool 9 true, .bin .eql 28 (.at (.one (.var 10))) (.at (.one (.var 12))) 13, .isBool 9 true, .isBool 13 true, .isAgg 4 8, .isBool 13 true, .isBool 13 true, .call 28 ⟨none, [.one .v, .one .v], .two (.one .v)⟩ [.one (.a (.var 4)), .agg [.a (.var 6), .a (.lit (.int .u64 0)), .a (.lit (.int .u64 0)), .a (.lit (.int .u64 0))]] 14, .isBool 13 true, .isAgg 5 8, .isBool 13 true, .isBool 13 true, .call 28 ⟨none, [.one .v, .one .v], .two (.one .v)⟩ [.one (.a (.var 5)), .agg [.a (.var 6), .a (.lit (.int .u64 0)), .a (.lit (.int .u64 0)), .a (.lit (.int .u64 0))]] 15, .isBool 13 true, .isAgg 14 8, .isAgg 15 8, .isBool 13 true, .call 32 ⟨none, [.one (.sv 8)], .two (.one .v)⟩ [.one (.rc (.lst [.part 14 0 8, .part 14 1 8, .part 14 2 8, .part 14 3 8, .part 14 4 8, .part 14 5 8, .part 14 6 8, .part 14 7 8, .part 15 0 8, .part 15 1 8, .part 15 2 8, .part 15 3 8, .part 15 4 8, .part 15 5 8, .part 15 6 8, .part 15 7 8]))] 16, .isBool 13 true, .call 36 ⟨none, [], .two (.one .v)⟩ [] 17, .isBool 13 true, .bin .eql 28 (.at (.one (.var 16))) (.at (.one (.var 17))) 18, .isBool 13 true] (by kernel_rfl) ?_
  refine vc_isAgg rfl rfl rfl ?_
  refine vc_call c_awake9 (ds := []) (r := Bo true) (fun _ => rfl) rfl (⟨rfl, rfl⟩) ?_
  refine vc_not (fun _ => rfl) rfl ?_
  refine vc_isBool (rfl) ?_
  refine vc_isAgg rfl rfl rfl ?_
  refine vc_call c_pick (ds := [bts [x0, x1, x2, x3, x4, x5, x6, x7, x8, x9, x10, x11, x12, x13, x14, x15, x16, x17, x18, x19, x20, x21, x22, x23, x24, x25, x26, x27, x28, x29, x30, x31]]) (r := PV p) (fun _ => rfl) rfl (⟨_, hbx, rfl, rfl, by rw [hp]⟩) ?_
  refine vc_isAgg rfl rfl rfl ?_
  refine vc_isAgg rfl rfl rfl ?_
  refine vc_call c_minusP (ds := [PV p]) (r := PV (-p)) (fun _ => rfl) rfl (⟨_, rfl, rfl⟩) ?_
  refine vc_isAgg rfl rfl rfl ?_
  refine vc_conv_u64 (q := .u16) (x := ny) (by kernel_rfl) (by kernel_rfl) (by exact fun _ => rfl) (by omega) rfl ?_
  refine vc_isOne rfl ?_
  refine vc_isAgg rfl rfl rfl ?_
  refine vc_call c_goodP (ds := [PV (-p)]) (r := Bo true) (fun _ => rfl) rfl (⟨_, rfl, rfl⟩) ?_
  refine vc_isBool (rfl) ?_
  refine vc_isAgg rfl rfl rfl ?_
  refine vc_isBool (rfl) ?_
  refine vc_call c_minusP (ds := [PV (-p)]) (r := PV (-(-p))) (fun _ => rfl) rfl (⟨_, rfl, rfl⟩) ?_
  refine vc_isBool (rfl) ?_
  refine vc_isAgg rfl rfl rfl ?_
  refine vc_isBool (rfl) ?_
  refine vc_eqlN (m := 2) eqT28 (xs := [(-(-p)).x.val, (-(-p)).y.val]) (ys := [p.x.val, p.y.val]) (by exact fun _ => rfl) (by exact fun _ => rfl) rfl rfl (bnd2 (F_lt _) (F_lt _)) (bnd2 (F_lt _) (F_lt _)) rfl ?_
  refine vc_isBool (rfl) ?_
  refine vc_isBool (by show Bo (decide _) = _; rw [PV_dec, decide_eq_true (Ed.neg_neg p)]; rfl) ?_
  refine vc_isAgg rfl rfl rfl ?_
  refine vc_isBool (by show Bo (decide _) = _; rw [PV_dec, decide_eq_true (Ed.neg_neg p)]; rfl) ?_
  refine vc_isBool (by show Bo (decide _) = _; rw [PV_dec, decide_eq_true (Ed.neg_neg p)]; rfl) ?_
  refine vc_call c_timesP (ds := [PV (-p), Value.agg #[U ny, U 0, U 0, U 0]]) (r := PV (Ed.smul ny (-p))) (fun _ => rfl) rfl (⟨_, _, by omega, by rw [nums_one (by omega)], rfl⟩) ?_
  refine vc_isBool (by show Bo (decide _) = _; rw [PV_dec, decide_eq_true (Ed.neg_neg p)]; rfl) ?_
  refine vc_isAgg rfl rfl rfl ?_
  refine vc_isBool (by show Bo (decide _) = _; rw [PV_dec, decide_eq_true (Ed.neg_neg p)]; rfl) ?_
  refine vc_isBool (by show Bo (decide _) = _; rw [PV_dec, decide_eq_true (Ed.neg_neg p)]; rfl) ?_
  refine vc_call c_timesP (ds := [PV p, Value.agg #[U ny, U 0, U 0, U 0]]) (r := PV (Ed.smul ny p)) (fun _ => rfl) rfl (⟨_, _, by omega, by rw [nums_one (by omega)], rfl⟩) ?_
  refine vc_isBool (by show Bo (decide _) = _; rw [PV_dec, decide_eq_true (Ed.neg_neg p)]; rfl) ?_
  refine vc_call c_minusP (ds := [PV (Ed.smul ny p)]) (r := PV (-(Ed.smul ny p))) (fun _ => rfl) rfl (⟨_, rfl, rfl⟩) ?_
  refine vc_isBool (by show Bo (decide _) = _; rw [PV_dec, decide_eq_true (Ed.neg_neg p)]; rfl) ?_
  refine vc_eqlN (m := 2) eqT28 (xs := [(Ed.smul ny (-p)).x.val, (Ed.smul ny (-p)).y.val]) (ys := [(-(Ed.smul ny p)).x.val, (-(Ed.smul ny p)).y.val]) (by exact fun _ => rfl) (by exact fun _ => rfl) rfl rfl (bnd2 (F_lt _) (F_lt _)) (bnd2 (F_lt _) (F_lt _)) rfl ?_
  refine vc_isBool (by show Bo (decide _) = _; rw [PV_dec, decide_eq_true (Ed.neg_neg p)]; rfl) ?_
  refine vc_isBool (by show Bo (decide _) = _; rw [PV_dec, decide_eq_true (Ed.smul_neg p ny)]; rfl) ?_
  refine vc_isAgg rfl rfl rfl ?_
  refine vc_isBool (by show Bo (decide _) = _; rw [PV_dec, decide_eq_true (Ed.smul_neg p ny)]; rfl) ?_
  refine vc_isBool (by show Bo (decide _) = _; rw [PV_dec, decide_eq_true (Ed.smul_neg p ny)]; rfl) ?_
  refine vc_call c_timesP (ds := [PV p, Value.agg #[U ny, U 0, U 0, U 0]]) (r := PV (Ed.smul ny p)) (fun _ => rfl) rfl (⟨_, _, by omega, by rw [nums_one (by omega)], rfl⟩) ?_
  refine vc_isBool (by show Bo (decide _) = _; rw [PV_dec, decide_eq_true (Ed.smul_neg p ny)]; rfl) ?_
  refine vc_isAgg rfl rfl rfl ?_
  refine vc_isBool (by show Bo (decide _) = _; rw [PV_dec, decide_eq_true (Ed.smul_neg p ny)]; rfl) ?_
  refine vc_isBool (by show Bo (decide _) = _; rw [PV_dec, decide_eq_true (Ed.smul_neg p ny)]; rfl) ?_
  refine vc_call c_timesP (ds := [PV (-p), Value.agg #[U ny, U 0, U 0, U 0]]) (r := PV (Ed.smul ny (-p))) (fun _ => rfl) rfl (⟨_, _, by omega, by rw [nums_one (by omega)], rfl⟩) ?_
  refine vc_isBool (by show Bo (decide _) = _; rw [PV_dec, decide_eq_true (Ed.smul_neg p ny)]; rfl) ?_
  refine vc_isAgg rfl rfl rfl ?_
  refine vc_isAgg rfl rfl rfl ?_
  refine vc_isBool (by show Bo (decide _) = _; rw [PV_dec, decide_eq_true (Ed.smul_neg p ny)]; rfl) ?_
  refine vc_call c_addP (ds := [pts [(Ed.smul ny p), (Ed.smul ny (-p))]]) (r := PV (Ed.sumP [(Ed.smul ny p), (Ed.smul ny (-p))])) (fun _ => rfl) rfl (⟨_, (Nat.le_of_ble_eq_true rfl), rfl, rfl⟩) ?_
  refine vc_isBool (by show Bo (decide _) = _; rw [PV_dec, decide_eq_true (Ed.smul_neg p ny)]; rfl) ?_
  refine vc_call c_naught (ds := []) (r := PV ((0 : Pt))) (fun _ => rfl) rfl (⟨rfl, rfl⟩) ?_
  refine vc_isBool (by show Bo (decide _) = _; rw [PV_dec, decide_eq_true (Ed.smul_neg p ny)]; rfl) ?_
  refine vc_eqlN (m := 2) eqT28 (xs := [(Ed.sumP [(Ed.smul ny p), (Ed.smul ny (-p))]).x.val, (Ed.sumP [(Ed.smul ny p), (Ed.smul ny (-p))]).y.val]) (ys := [((0 : Pt)).x.val, ((0 : Pt)).y.val]) (by exact fun _ => rfl) (by exact fun _ => rfl) rfl rfl (bnd2 (F_lt _) (F_lt _)) (bnd2 (F_lt _) (F_lt _)) rfl ?_
  refine vc_isBool (by show Bo (decide _) = _; rw [PV_dec, decide_eq_true (Ed.smul_neg p ny)]; rfl) ?_
  refine vc_nil ?_
  refine JF.ret (by kernel_rfl) ?_
  refine hE.fin3 19 [Bo (decide ([(Ed.sumP [(Ed.smul ny p), (Ed.smul ny (-p))]).x.val, (Ed.sumP [(Ed.smul ny p), (Ed.smul ny (-p))]).y.val] = [((0 : Pt)).x.val, ((0 : Pt)).y.val])), PV ((0 : Pt)), PV (Ed.sumP [(Ed.smul ny p), (Ed.smul ny (-p))]), PV (Ed.smul ny (-p)), PV (Ed.smul ny p), Bo (decide ([(Ed.smul ny (-p)).x.val, (Ed.smul ny (-p)).y.val] = [(-(Ed.smul ny p)).x.val, (-(Ed.smul ny p)).y.val])), PV (-(Ed.smul ny p)), PV (Ed.smul ny p), PV (Ed.smul ny (-p)), Bo (decide ([(-(-p)).x.val, (-(-p)).y.val] = [p.x.val, p.y.val])), PV (-(-p)), Bo true, U ny, PV (-p), PV p, Bo (!true), Bo true, IK .u16 ny, bts [x0, x1, x2, x3, x4, x5, x6, x7, x8, x9, x10, x11, x12, x13, x14, x15, x16, x17, x18, x19, x20, x21, x22, x23, x24, x25, x26, x27, x28, x29, x30, x31]] rfl rfl (cm := []) (ds := [.v (.at (.one (.var 18)))]) (by kernel_rfl) rfl (.inr rfl) ?_
  refine vc_nil ?_
  show Bo (decide ([(Ed.sumP [(Ed.smul ny p), (Ed.smul ny (-p))]).x.val, (Ed.sumP [(Ed.smul ny p), (Ed.smul ny (-p))]).y.val] = [((0 : Pt)).x.val, ((0 : Pt)).y.val])) = _
  rw [PV_dec, decide_eq_true (by rw [sumP2, Ed.smul_neg, Ed.add_neg])]

end Go.Proofs.Ytpeafegfjhljmaa

/-
  CurveMinus: the point whose sum with a point is the naught: of that it is the point again; so many times it is that of so many times the point: for every input, without a condition.
-/
open Go Go.Sx Go.Proofs Go.ChangeShapes Go.WideShapes Go.ChangeAt
open Ed (F P inv pw Pt)
namespace Go.Proofs.Ytpeafegfjhljmaa
set_option maxRecDepth 100000
set_option maxHeartbeats 4000000
theorem own : ownKnob Try.prog.godebug = none := by kernel_rfl
theorem laidOut : laidOutB Try.prog = true := by kernel_rfl
theorem minus9_lifted (os : Os) (started : os.Started) (H : Type) (enc : TypeId × Value → H) :
    ReturnsInHanded {} Try.checked os 8 .any (Rows.curveMinusSpec.pre6 enc Try.prog Try.f8 Rows.curveMinusRow.domain false) (Rows.curveMinusSpec.post enc Try.prog Try.f8 false true false false) := by
  refine returnsInHanded_of_change (C := Try.checked) own started (by kernel_rfl) Try.func8
    (ChangeSpec.witness6 (enc := enc) (C := Try.checked) false ⟨#[], #[.agg (List.replicate 32 (.int .u8 0)).toArray, .int .u16 0], []⟩ 100 (by kernel_rfl) (by kernel_rfl) (by kernel_rfl) (by kernel_rfl)) ?_
  intro W base args ds gs before hval hW hcnd _
  have hlt := hW.lt
  have hW0 := hW
  obtain ⟨p, q, hA, hV, rfl, hfz, hnd⟩ := hW0
  obtain ⟨rfl, rfl⟩ := trodVars_none hV
  replace hA : DataW.TrodAll enc Try.prog W 0 (fun _ => true) true [44, 55] args.toList ds p := by rw [show Try.f8.params.toList = [44, 55] by kernel_rfl] at hA; exact hA
  obtain ⟨v0, v1, d0, d1, p0, p1, rfl, rfl, rfl, h0, h1⟩ := trodAll_two hA
  obtain ⟨l0, rfl, l0l, l0b⟩ := open_arrN (n := 32) (e := 5) (k := .u8) (by kernel_rfl) (by kernel_rfl) (by kernel_rfl) (by kernel_rfl) rfl (hval 0 44 v0 (by kernel_rfl) rfl) h0
  replace l0b : isB l0 := fun x hx => l0b x hx
  obtain ⟨n1, rfl, n1l⟩ := open_uint (k := .u16) (by kernel_rfl) rfl (hval 1 55 v1 (by kernel_rfl) rfl) h1
  have hcall := calls_of_ctr (A := fun _ => True) c_minus9 Try.func8 (by kernel_rfl) (by kernel_rfl) (w := W) (vs := [_, _]) (ds := [bts l0, IK .u16 n1]) (r := Bo true) trivial ⟨rfl, rfl, trivial⟩ ⟨l0, n1, l0b, l0l, n1l, rfl, rfl⟩
  refine hcall.mono ?_
  rintro e W' ⟨v, rfl, hr, hb⟩
  obtain rfl : v = Bo true := hr
  exact ⟨_, rfl, (law_post laidOut (by kernel_rfl) rfl (tb := 4) (by kernel_rfl) (by kernel_rfl) hW hb rfl).1⟩
theorem minus9_holds : Rows.CurveMinusSaid :=
  OpenClaim.holds_of_wide 8 Try.f8 rfl rfl rfl rfl rfl rfl rfl ⟨rfl, rfl, rfl, rfl, rfl⟩ rfl rfl rfl rfl rfl (by kernel_rfl) Try.func8 (by kernel_rfl)
    (of_decide_eq_true (by kernel_rfl)) (by unfold Func.isWrapper; rw [if_neg (by decide +kernel)]; exact ⟨rfl, rfl⟩)
    (fun os started H enc _ => minus9_lifted os started H enc)
end Go.Proofs.Ytpeafegfjhljmaa
