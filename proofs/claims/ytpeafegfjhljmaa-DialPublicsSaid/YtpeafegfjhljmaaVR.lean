/- Contracts of the functions of residue, first part. -/
import Derived.Test.YtpeafegfjhljmaaVB
import Derived.Test.YtpeafegfjhljmaaChecked
import Derived.KernelRfl
import Derived.Test.YtpeafegfjhljmaaVC
import Derived.Test.YtpeafegfjhljmaaVP
/-
  The table of types of this seat's program.
-/
open Go Go.Sx
namespace Go.Proofs.Ytpeafegfjhljmaa

def tis : List (Nat × TI) := [
  (3, ⟨.sc, 1, 8, [.int .i64 0]⟩),
  (4, ⟨.sc, 1, 1, [.bool false]⟩),
  (5, ⟨.u8, 1, 1, [.int .u8 0]⟩),
  (9, ⟨.stg, 1, 16, [.string ⟨#[]⟩]⟩),
  (22, ⟨.slc 5, 1, 24, [.slice none 0 0]⟩),
  (24, ⟨.sc, 1, 8, [.int .u64 0]⟩),
  (26, ⟨.arr 4 24, 4, 32, List.replicate 4 (.int .u64 0)⟩),
  (28, ⟨.str [(0, 26), (4, 26)], 8, 64, List.replicate 8 (.int .u64 0)⟩),
  (29, ⟨.sc, 1, 8, [.int .i64 0]⟩),
  (44, ⟨.arr 32 5, 32, 32, List.replicate 32 (.int .u8 0)⟩),
  (48, ⟨.slc 3, 1, 24, [.slice none 0 0]⟩),
  (50, ⟨.str [(0, 48), (1, 48), (2, 48)], 3, 72, List.replicate 3 (.slice none 0 0)⟩),
  (55, ⟨.sc, 1, 2, [.int .u16 0]⟩),
  (72, ⟨.slc 26, 1, 24, [.slice none 0 0]⟩),
  (75, ⟨.str [(0, 26)], 4, 32, List.replicate 4 (.int .u64 0)⟩),
  (78, ⟨.str [(0, 28), (8, 26), (12, 26)], 16, 128, List.replicate 16 (.int .u64 0)⟩),
  (82, ⟨.slc 28, 1, 24, [.slice none 0 0]⟩),
  (89, ⟨.arr 8 24, 8, 64, List.replicate 8 (.int .u64 0)⟩),
  (91, ⟨.slc 24, 1, 24, [.slice none 0 0]⟩)]

theorem ti_ok : TIok Try.prog (lk tis) := tiok_of (by kernel_rfl)
theorem mixed : Try.prog.follows .mixedOrders = true := by kernel_rfl
def glb0 : Glb := ⟨0, fun _ => True, fun _ _ h _ => h, fun _ _ => Nat.zero_le _⟩
end Go.Proofs.Ytpeafegfjhljmaa

/-
  The shapes of this seat's functions; words.
-/
open Go Go.Sx
namespace Go.Proofs.Ytpeafegfjhljmaa
def v0 : FS := ⟨none, [], .two (.one .v)⟩
def v1v : FS := ⟨none, [.one .v], .two (.one .v)⟩
def v2v : FS := ⟨none, [.one .v, .one .v], .two (.one .v)⟩
def v3v : FS := ⟨none, [.one .v, .one .v, .one .v], .two (.one .v)⟩
def v2t : FS := ⟨none, [.one .v, .one .v], .tup [.one .v, .one .v]⟩
def v1t : FS := ⟨none, [.one .v], .tup [.one .v, .one .v]⟩
def s1v (n : Nat) : FS := ⟨none, [.one (.sv n)], .two (.one .v)⟩
def s1t (n : Nat) : FS := ⟨none, [.one (.sv n)], .tup [.one .v, .one .v]⟩
def v1s : FS := ⟨none, [.one .v], .two (.one (.s 1 5))⟩
def s1st (n : Nat) : FS := ⟨none, [.one (.sv n)], .tup [.one (.s 1 5), .one .v]⟩
def fns : List (Nat × FS) := [(86, f3), (75, f3), (90, v2t), (72, v2t), (52, v2t), (85, v2t), (17, v2v), (18, v0), (41, v0), (53, v1v), (56, v2v), (71, v2v), (77, v1v), (55, v2v), (76, v2v), (54, v2v), (22, v1v), (19, v1t),
  (20, s1v 4), (23, s1v 4), (21, v2v), (24, v0), (25, v1v), (26, v1v), (28, v2v), (32, s1v 8), (35, v1v), (36, v0), (37, v1s), (38, v1v), (39, v1v), (40, v0), (42, v1v), (43, s1t 1), (44, v2v), (45, v2v), (46, v0), (47, s1st 1), (48, s1v 1),
  (49, v1t), (50, v0), (51, v0), (58, v0), (59, v1v), (60, v3v), (61, v1v), (70, v2v), (73, s1st 1), (74, s1t 1), (87, s1t 1), (12, v0), (13, s1t 1), (14, v1v), (15, v1s), (16, s1t 1),
  (3, s1v 1), (4, v2v), (5, v3v), (6, v2v), (7, v3v), (8, v2v), (9, v1v), (10, v1v), (11, s1v 1), (88, v2v)]
def cfg (n : Nat) : Cfg := ⟨lk tis, lk fns, fun _ => none, 0, n⟩
theorem add64 : Ctr Try.prog glb0 86 f3 Add64Φ := add64_ctr Try.func86 (by kernel_rfl) (by kernel_rfl) (by kernel_rfl) (by kernel_rfl)
theorem sub64 : Ctr Try.prog glb0 75 f3 Sub64Φ := sub64_ctr Try.func75 (by kernel_rfl) (by kernel_rfl) (by kernel_rfl) (by kernel_rfl)
end Go.Proofs.Ytpeafegfjhljmaa

/-
  Functions of the program: what each computes.
-/
open Go Go.Sx Go.Proofs
open Ed (F P inv pw Pt)
namespace Go.Proofs.Ytpeafegfjhljmaa
set_option maxRecDepth 100000
set_option maxHeartbeats 4000000
theorem eqT26 : EqT Try.prog 26 .u64 4 := eqT_arr (by kernel_rfl) (e := 24) (i := (Try.prog.info? 24).getD default) (by kernel_rfl) (by kernel_rfl) (by kernel_rfl) (by kernel_rfl)
theorem eqT28 : EqT Try.prog 28 .u64 8 := eqT_two (by kernel_rfl) (by kernel_rfl) (by kernel_rfl) (f := ((Try.prog.fieldsOf 28).toList)[0]!) (g := ((Try.prog.fieldsOf 28).toList)[1]!) (t := 26) (e := 24) (n := 4) (i := (Try.prog.info? 24).getD default) (j := (Try.prog.info? 26).getD default) (by kernel_rfl) (by decide) (by decide) (by kernel_rfl) (by kernel_rfl) (by kernel_rfl) (by kernel_rfl) (by kernel_rfl) (by kernel_rfl) (by kernel_rfl) (by kernel_rfl) (by kernel_rfl) (by kernel_rfl)
theorem mul4 (k a b c d : Nat) : (a + k * b) * (c + k * d) = a * c + k * (b * c + a * d) + k * k * (b * d) := by grind
noncomputable def E_prime_0 : Option Ran := ex1 (cfg 2) (fun _ => none) 0 4000 30000 0 (inSt (v0)) [.c (bodyOf Try.f18)] .nor
theorem c_prime : Ctr Try.prog glb0 18 v0 (Φ0 (nums [P])) := by
  refine ctr (C := cfg 2) mixed ti_ok Try.func18 (by kernel_rfl) ?_
  rintro ds r X Q hl ⟨rfl, rfl⟩ hE
  refine Jd.go2 (E := E_prime_0) 0 [] rfl rfl rfl [] (by kernel_rfl) ?_
  refine vc_nil ?_
  refine JF.ret (by kernel_rfl) ?_
  refine hE.fin3 0 [] rfl rfl (cm := []) (ds := [.v (.at (.agg [.lit (.int .u64 18446744073709551597), .lit (.int .u64 18446744073709551615), .lit (.int .u64 18446744073709551615), .lit (.int .u64 9223372036854775807)]))]) (by kernel_rfl) rfl (.inr rfl) ?_
  refine vc_nil ?_
  show nums [57896044618658097711785492504343953926634992332820282019728792003956564819949] = _
  rfl

noncomputable def E_order_0 : Option Ran := ex1 (cfg 2) (fun _ => none) 0 4000 30000 0 (inSt (v0)) [.c (bodyOf Try.f41)] .nor
theorem c_order : Ctr Try.prog glb0 41 v0 (Φ0 (nums [Lo])) := by
  refine ctr (C := cfg 2) mixed ti_ok Try.func41 (by kernel_rfl) ?_
  rintro ds r X Q hl ⟨rfl, rfl⟩ hE
  refine Jd.go2 (E := E_order_0) 0 [] rfl rfl rfl [] (by kernel_rfl) ?_
  refine vc_nil ?_
  refine JF.ret (by kernel_rfl) ?_
  refine hE.fin3 0 [] rfl rfl (cm := []) (ds := [.v (.at (.agg [.lit (.int .u64 6346243789798364141), .lit (.int .u64 1503914060200516822), .lit (.int .u64 0), .lit (.int .u64 1152921504606846976)]))]) (by kernel_rfl) rfl (.inr rfl) ?_
  refine vc_nil ?_
  show nums [7237005577332262213973186563042994240857116359379907606001950938285454250989] = _
  rfl

noncomputable def E_plus_0 : Option Ran := ex1 (cfg 27) (fun _ => none) 9 4000 30000 2 (inSt (v2t)) [.c (bodyOf Try.f72)] .nor
theorem c_plus : Ctr Try.prog glb0 72 v2t Φplus := by
  refine ctr (C := cfg 27) mixed ti_ok Try.func72 (by kernel_rfl) ?_
  rintro ds r X Q hl ⟨x, y, hx, hy, rfl, rfl⟩ hE
  obtain ⟨x0, x1, x2, x3, a0, a1, a2, a3, ex, nx⟩ := nums_split hx
  obtain ⟨y0, y1, y2, y3, b0, b1, b2, b3, ey, ny⟩ := nums_split hy
  rw [nx, ny]
  refine Jd.go2 (E := E_plus_0) 2 [Value.agg #[U y0, U y1, U y2, U y3], Value.agg #[U x0, U x1, U x2, U x3]] rfl rfl rfl [.isAgg 0 4, .isAgg 1 4, .call 86 ⟨none, [.one .v, .one .v, .one .v], .tup [.one .v, .one .v]⟩ [.one (.a (.part 0 0 4)), .one (.a (.part 1 0 4)), .one (.a (.lit (.int .u64 0)))] 2, .tupc 2 0 3, .tupc 2 1 4, .isOne (.var 3), .call 86 ⟨none, [.one .v, .one .v, .one .v], .tup [.one .v, .one .v]⟩ [.one (.a (.part 0 1 4)), .one (.a (.part 1 1 4)), .one (.a (.var 4))] 5, .tupc 5 0 6, .tupc 5 1 7, .isOne (.var 6), .call 86 ⟨none, [.one .v, .one .v, .one .v], .tup [.one .v, .one .v]⟩ [.one (.a (.part 0 2 4)), .one (.a (.part 1 2 4)), .one (.a (.var 7))] 8, .tupc 8 0 9, .tupc 8 1 10, .isOne (.var 9), .call 86 ⟨none, [.one .v, .one .v, .one .v], .tup [.one .v, .one .v]⟩ [.one (.a (.part 0 3 4)), .one (.a (.part 1 3 4)), .one (.a (.var 10))] 11, .tupc 11 0 12, .tupc 11 1 13, .isOne (.var 12)] (by kernel_rfl) ?_
  refine vc_isAgg rfl rfl rfl ?_
  refine vc_isAgg rfl rfl rfl ?_
  have f2 := add_fact x0 y0 0 (by omega) (by omega) (by omega)
  refine vc_call add64 (ds := [U x0, U y0, U 0]) (r := Value.tuple #[U (((x0 + y0 + 0) % 18446744073709551616)), U (((x0 + y0 + 0) / 18446744073709551616))]) (fun _ => rfl) rfl (⟨_, _, _, by omega, rfl, rfl⟩) ?_
  generalize (x0 + y0 + 0) % 18446744073709551616 = s2 at f2 ⊢
  generalize (x0 + y0 + 0) / 18446744073709551616 = c2 at f2 ⊢
  refine vc_tupc (fun _ => rfl) rfl rfl ?_
  refine vc_tupc (fun _ => rfl) rfl rfl ?_
  refine vc_isOne rfl ?_
  have f5 := add_fact x1 y1 c2 (by omega) (by omega) (by omega)
  refine vc_call add64 (ds := [U x1, U y1, U c2]) (r := Value.tuple #[U (((x1 + y1 + c2) % 18446744073709551616)), U (((x1 + y1 + c2) / 18446744073709551616))]) (fun _ => rfl) rfl (⟨_, _, _, by omega, rfl, rfl⟩) ?_
  generalize (x1 + y1 + c2) % 18446744073709551616 = s5 at f5 ⊢
  generalize (x1 + y1 + c2) / 18446744073709551616 = c5 at f5 ⊢
  refine vc_tupc (fun _ => rfl) rfl rfl ?_
  refine vc_tupc (fun _ => rfl) rfl rfl ?_
  refine vc_isOne rfl ?_
  have f8 := add_fact x2 y2 c5 (by omega) (by omega) (by omega)
  refine vc_call add64 (ds := [U x2, U y2, U c5]) (r := Value.tuple #[U (((x2 + y2 + c5) % 18446744073709551616)), U (((x2 + y2 + c5) / 18446744073709551616))]) (fun _ => rfl) rfl (⟨_, _, _, by omega, rfl, rfl⟩) ?_
  generalize (x2 + y2 + c5) % 18446744073709551616 = s8 at f8 ⊢
  generalize (x2 + y2 + c5) / 18446744073709551616 = c8 at f8 ⊢
  refine vc_tupc (fun _ => rfl) rfl rfl ?_
  refine vc_tupc (fun _ => rfl) rfl rfl ?_
  refine vc_isOne rfl ?_
  have f11 := add_fact x3 y3 c8 (by omega) (by omega) (by omega)
  refine vc_call add64 (ds := [U x3, U y3, U c8]) (r := Value.tuple #[U (((x3 + y3 + c8) % 18446744073709551616)), U (((x3 + y3 + c8) / 18446744073709551616))]) (fun _ => rfl) rfl (⟨_, _, _, by omega, rfl, rfl⟩) ?_
  generalize (x3 + y3 + c8) % 18446744073709551616 = s11 at f11 ⊢
  generalize (x3 + y3 + c8) / 18446744073709551616 = c11 at f11 ⊢
  refine vc_tupc (fun _ => rfl) rfl rfl ?_
  refine vc_tupc (fun _ => rfl) rfl rfl ?_
  refine vc_isOne rfl ?_
  refine vc_nil ?_
  refine JF.ret (by kernel_rfl) ?_
  refine hE.fin3 14 [U c11, U s11, Value.tuple #[U s11, U c11], U c8, U s8, Value.tuple #[U s8, U c8], U c5, U s5, Value.tuple #[U s5, U c5], U c2, U s2, Value.tuple #[U s2, U c2], Value.agg #[U y0, U y1, U y2, U y3], Value.agg #[U x0, U x1, U x2, U x3]] rfl rfl (cm := []) (ds := [.v (.at (.agg [.var 3, .var 6, .var 9, .var 12])), .v (.at (.one (.var 13)))]) (by kernel_rfl) rfl (.inr rfl) ?_
  refine vc_nil ?_
  show Value.tuple #[Value.agg #[U s2, U s5, U s8, U s11], U c11] = _
  rw [show c11 = (x + y) / 115792089237316195423570985008687907853269984665640564039457584007913129639936 by omega]
  rw [nums_words (n := (x + y) % 115792089237316195423570985008687907853269984665640564039457584007913129639936) (a := s2) (b := s5) (c := s8) (d := s11) (by omega) (by omega) (by omega) (by omega) (by omega)]

noncomputable def E_minus_0 : Option Ran := ex1 (cfg 27) (fun _ => none) 9 4000 30000 2 (inSt (v2t)) [.c (bodyOf Try.f52)] .nor
theorem c_minus : Ctr Try.prog glb0 52 v2t Φminus := by
  refine ctr (C := cfg 27) mixed ti_ok Try.func52 (by kernel_rfl) ?_
  rintro ds r X Q hl ⟨x, y, hx, hy, rfl, rfl⟩ hE
  obtain ⟨x0, x1, x2, x3, a0, a1, a2, a3, ex, nx⟩ := nums_split hx
  obtain ⟨y0, y1, y2, y3, b0, b1, b2, b3, ey, ny⟩ := nums_split hy
  rw [nx, ny]
  refine Jd.go2 (E := E_minus_0) 2 [Value.agg #[U y0, U y1, U y2, U y3], Value.agg #[U x0, U x1, U x2, U x3]] rfl rfl rfl [.isAgg 0 4, .isAgg 1 4, .call 75 ⟨none, [.one .v, .one .v, .one .v], .tup [.one .v, .one .v]⟩ [.one (.a (.part 0 0 4)), .one (.a (.part 1 0 4)), .one (.a (.lit (.int .u64 0)))] 2, .tupc 2 0 3, .tupc 2 1 4, .isOne (.var 3), .call 75 ⟨none, [.one .v, .one .v, .one .v], .tup [.one .v, .one .v]⟩ [.one (.a (.part 0 1 4)), .one (.a (.part 1 1 4)), .one (.a (.var 4))] 5, .tupc 5 0 6, .tupc 5 1 7, .isOne (.var 6), .call 75 ⟨none, [.one .v, .one .v, .one .v], .tup [.one .v, .one .v]⟩ [.one (.a (.part 0 2 4)), .one (.a (.part 1 2 4)), .one (.a (.var 7))] 8, .tupc 8 0 9, .tupc 8 1 10, .isOne (.var 9), .call 75 ⟨none, [.one .v, .one .v, .one .v], .tup [.one .v, .one .v]⟩ [.one (.a (.part 0 3 4)), .one (.a (.part 1 3 4)), .one (.a (.var 10))] 11, .tupc 11 0 12, .tupc 11 1 13, .isOne (.var 12)] (by kernel_rfl) ?_
  refine vc_isAgg rfl rfl rfl ?_
  refine vc_isAgg rfl rfl rfl ?_
  have f2 := sub_fact x0 y0 0 (by omega) (by omega) (by omega)
  refine vc_call sub64 (ds := [U x0, U y0, U 0]) (r := Value.tuple #[U (((x0 + 18446744073709551616 - y0 - 0) % 18446744073709551616)), U ((if x0 < y0 + 0 then 1 else 0))]) (fun _ => rfl) rfl (⟨_, _, _, by omega, rfl, rfl⟩) ?_
  generalize (x0 + 18446744073709551616 - y0 - 0) % 18446744073709551616 = s2 at f2 ⊢
  generalize (if x0 < y0 + 0 then 1 else 0) = c2 at f2 ⊢
  refine vc_tupc (fun _ => rfl) rfl rfl ?_
  refine vc_tupc (fun _ => rfl) rfl rfl ?_
  refine vc_isOne rfl ?_
  have f5 := sub_fact x1 y1 c2 (by omega) (by omega) (by omega)
  refine vc_call sub64 (ds := [U x1, U y1, U c2]) (r := Value.tuple #[U (((x1 + 18446744073709551616 - y1 - c2) % 18446744073709551616)), U ((if x1 < y1 + c2 then 1 else 0))]) (fun _ => rfl) rfl (⟨_, _, _, by omega, rfl, rfl⟩) ?_
  generalize (x1 + 18446744073709551616 - y1 - c2) % 18446744073709551616 = s5 at f5 ⊢
  generalize (if x1 < y1 + c2 then 1 else 0) = c5 at f5 ⊢
  refine vc_tupc (fun _ => rfl) rfl rfl ?_
  refine vc_tupc (fun _ => rfl) rfl rfl ?_
  refine vc_isOne rfl ?_
  have f8 := sub_fact x2 y2 c5 (by omega) (by omega) (by omega)
  refine vc_call sub64 (ds := [U x2, U y2, U c5]) (r := Value.tuple #[U (((x2 + 18446744073709551616 - y2 - c5) % 18446744073709551616)), U ((if x2 < y2 + c5 then 1 else 0))]) (fun _ => rfl) rfl (⟨_, _, _, by omega, rfl, rfl⟩) ?_
  generalize (x2 + 18446744073709551616 - y2 - c5) % 18446744073709551616 = s8 at f8 ⊢
  generalize (if x2 < y2 + c5 then 1 else 0) = c8 at f8 ⊢
  refine vc_tupc (fun _ => rfl) rfl rfl ?_
  refine vc_tupc (fun _ => rfl) rfl rfl ?_
  refine vc_isOne rfl ?_
  have f11 := sub_fact x3 y3 c8 (by omega) (by omega) (by omega)
  refine vc_call sub64 (ds := [U x3, U y3, U c8]) (r := Value.tuple #[U (((x3 + 18446744073709551616 - y3 - c8) % 18446744073709551616)), U ((if x3 < y3 + c8 then 1 else 0))]) (fun _ => rfl) rfl (⟨_, _, _, by omega, rfl, rfl⟩) ?_
  generalize (x3 + 18446744073709551616 - y3 - c8) % 18446744073709551616 = s11 at f11 ⊢
  generalize (if x3 < y3 + c8 then 1 else 0) = c11 at f11 ⊢
  refine vc_tupc (fun _ => rfl) rfl rfl ?_
  refine vc_tupc (fun _ => rfl) rfl rfl ?_
  refine vc_isOne rfl ?_
  refine vc_nil ?_
  refine JF.ret (by kernel_rfl) ?_
  refine hE.fin3 14 [U c11, U s11, Value.tuple #[U s11, U c11], U c8, U s8, Value.tuple #[U s8, U c8], U c5, U s5, Value.tuple #[U s5, U c5], U c2, U s2, Value.tuple #[U s2, U c2], Value.agg #[U y0, U y1, U y2, U y3], Value.agg #[U x0, U x1, U x2, U x3]] rfl rfl (cm := []) (ds := [.v (.at (.agg [.var 3, .var 6, .var 9, .var 12])), .v (.at (.one (.var 13)))]) (by kernel_rfl) rfl (.inr rfl) ?_
  refine vc_nil ?_
  show Value.tuple #[Value.agg #[U s2, U s5, U s8, U s11], U c11] = _
  have g : (s2 + 18446744073709551616 * (s5 + 18446744073709551616 * (s8 + 18446744073709551616 * s11))) + y = x + 115792089237316195423570985008687907853269984665640564039457584007913129639936 * c11 := by omega
  obtain ⟨-, k2, -⟩ := f2
  obtain ⟨-, k5, -⟩ := f5
  obtain ⟨-, k8, -⟩ := f8
  obtain ⟨-, k11, l11⟩ := f11
  clear ex ey nx ny a0 a1 a2 a3 b0 b1 b2 b3 hl hE
  have hS : s2 + 18446744073709551616 * (s5 + 18446744073709551616 * (s8 + 18446744073709551616 * s11)) < 115792089237316195423570985008687907853269984665640564039457584007913129639936 := by omega
  have hr := nums_words (n := s2 + 18446744073709551616 * (s5 + 18446744073709551616 * (s8 + 18446744073709551616 * s11))) k2 k5 k8 k11 rfl
  generalize s2 + 18446744073709551616 * (s5 + 18446744073709551616 * (s8 + 18446744073709551616 * s11)) = t at *
  rw [← hr]
  have h01 : c11 = 0 ∨ c11 = 1 := by omega
  rcases h01 with rfl | rfl
  · rw [show (x + 115792089237316195423570985008687907853269984665640564039457584007913129639936 - y) % 115792089237316195423570985008687907853269984665640564039457584007913129639936 = t by omega, if_neg (by omega)]
  · rw [show (x + 115792089237316195423570985008687907853269984665640564039457584007913129639936 - y) % 115792089237316195423570985008687907853269984665640564039457584007913129639936 = t by omega, if_pos (by omega)]

noncomputable def E_less_0 : Option Ran := ex1 (cfg 15) (fun _ => none) 0 4000 30000 2 (inSt (v2v)) [.c (bodyOf Try.f17)] .nor
theorem c_less : Ctr Try.prog glb0 17 v2v Φless := by
  refine ctr (C := cfg 15) mixed ti_ok Try.func17 (by kernel_rfl) ?_
  rintro ds r X Q hl ⟨x, y, hx, hy, rfl, rfl⟩ hE
  refine Jd.go2 (E := E_less_0) 2 [nums [y], nums [x]] rfl rfl rfl [.isAgg 0 4, .isAgg 1 4, .isAgg 0 4, .isAgg 1 4, .call 52 ⟨none, [.one .v, .one .v], .tup [.one .v, .one .v]⟩ [.one (.a (.var 0)), .one (.a (.var 1))] 2, .tupc 2 0 3, .tupc 2 1 4, .isAgg 3 4, .bin .eql 24 (.at (.one (.var 4))) (.at (.one (.lit (.int .u64 1)))) 5] (by kernel_rfl) ?_
  refine vc_isAgg rfl rfl rfl ?_
  refine vc_isAgg rfl rfl rfl ?_
  refine vc_isAgg rfl rfl rfl ?_
  refine vc_isAgg rfl rfl rfl ?_
  refine vc_call c_minus (ds := [nums [x], nums [y]]) (r := Value.tuple #[nums [(x + 115792089237316195423570985008687907853269984665640564039457584007913129639936 - y) % 115792089237316195423570985008687907853269984665640564039457584007913129639936], U ((if x < y then 1 else 0))]) (fun _ => rfl) rfl (⟨_, _, hx, hy, rfl, rfl⟩) ?_
  refine vc_tupc (fun _ => rfl) rfl rfl ?_
  refine vc_tupc (fun _ => rfl) rfl rfl ?_
  refine vc_isAgg rfl rfl rfl ?_
  refine vc_cmp (x := if x < y then 1 else 0) (y := 1) (t := decide (x < y)) (fun _ => rfl) (fun _ => rfl) rfl (by simp only [Option.some.injEq]; rw [decide_eq_decide]; split <;> omega) ?_
  refine vc_nil ?_
  refine JF.ret (by kernel_rfl) ?_
  refine hE.fin3 6 [Bo (decide (x < y)), U ((if x < y then 1 else 0)), nums [(x + 115792089237316195423570985008687907853269984665640564039457584007913129639936 - y) % 115792089237316195423570985008687907853269984665640564039457584007913129639936], Value.tuple #[nums [(x + 115792089237316195423570985008687907853269984665640564039457584007913129639936 - y) % 115792089237316195423570985008687907853269984665640564039457584007913129639936], U ((if x < y then 1 else 0))], nums [y], nums [x]] rfl rfl (cm := []) (ds := [.v (.at (.one (.var 5)))]) (by kernel_rfl) rfl (.inr rfl) ?_
  refine vc_nil ?_
  show Bo (decide (x < y)) = _
  rfl

noncomputable def E_zero_0 : Option Ran := ex1 (cfg 6) (fun _ => none) 0 4000 30000 1 (inSt (v1v)) [.c (bodyOf Try.f25)] .nor
theorem c_zero : Ctr Try.prog glb0 25 v1v ΦZero := by
  refine ctr (C := cfg 6) mixed ti_ok Try.func25 (by kernel_rfl) ?_
  rintro ds r X Q hl ⟨x, hx, rfl, rfl⟩ hE
  refine Jd.go2 (E := E_zero_0) 1 [nums [x]] rfl rfl rfl [.isAgg 0 4, .isAgg 0 4, .bin .eql 26 (.at (.one (.var 0))) (.at (.agg [.lit (.int .u64 0), .lit (.int .u64 0), .lit (.int .u64 0), .lit (.int .u64 0)])) 1] (by kernel_rfl) ?_
  refine vc_isAgg rfl rfl rfl ?_
  refine vc_isAgg rfl rfl rfl ?_
  refine vc_eqlN (m := 1) eqT26 (xs := [x]) (ys := [0]) (fun _ => rfl) (fun _ => rfl) rfl rfl (bnd1 hx) (bnd1 (by decide)) rfl ?_
  refine vc_nil ?_
  refine JF.ret (by kernel_rfl) ?_
  refine hE.fin3 2 [Bo (decide ([x] = [0])), nums [x]] rfl rfl (cm := []) (ds := [.v (.at (.one (.var 1)))]) (by kernel_rfl) rfl (.inr rfl) ?_
  refine vc_nil ?_
  show Bo (decide ([x] = [0])) = _
  rw [show decide ([x] = [0]) = decide (x = 0) from by rw [decide_eq_decide]; simp]

noncomputable def E_Mul64_0 : Option Ran := ex1 (cfg 51) (fun _ => none) 0 4000 30000 2 (inSt (v2t)) [.c (bodyOf Try.f90)] .nor
theorem c_Mul64 : Ctr Try.prog glb0 90 v2t Φmul64 := by
  refine ctr (C := cfg 51) mixed ti_ok Try.func90 (by kernel_rfl) ?_
  rintro ds r X Q hl ⟨x, y, hx, hy, rfl, rfl⟩ hE
  have e2 : (2:Nat) ^ 32 = 4294967296 := by decide
  refine Jd.go2 (E := E_Mul64_0) 2 [U y, U x] rfl rfl rfl [.bin .and 24 (.at (.one (.var 0))) (.at (.one (.lit (.int .u64 4294967295)))) 2, .bin .shr 24 (.at (.one (.var 0))) (.at (.one (.lit (.int .u64 32)))) 3, .bin .and 24 (.at (.one (.var 1))) (.at (.one (.lit (.int .u64 4294967295)))) 4, .bin .shr 24 (.at (.one (.var 1))) (.at (.one (.lit (.int .u64 32)))) 5, .bin .mul 24 (.at (.one (.var 2))) (.at (.one (.var 4))) 6, .bin .mul 24 (.at (.one (.var 3))) (.at (.one (.var 4))) 7, .bin .shr 24 (.at (.one (.var 6))) (.at (.one (.lit (.int .u64 32)))) 8, .bin .add 24 (.at (.one (.var 7))) (.at (.one (.var 8))) 9, .bin .and 24 (.at (.one (.var 9))) (.at (.one (.lit (.int .u64 4294967295)))) 10, .bin .shr 24 (.at (.one (.var 9))) (.at (.one (.lit (.int .u64 32)))) 11, .bin .mul 24 (.at (.one (.var 2))) (.at (.one (.var 5))) 12, .bin .add 24 (.at (.one (.var 10))) (.at (.one (.var 12))) 13, .bin .mul 24 (.at (.one (.var 3))) (.at (.one (.var 5))) 14, .bin .add 24 (.at (.one (.var 14))) (.at (.one (.var 11))) 15, .bin .shr 24 (.at (.one (.var 13))) (.at (.one (.lit (.int .u64 32)))) 16, .bin .add 24 (.at (.one (.var 15))) (.at (.one (.var 16))) 17, .bin .mul 24 (.at (.one (.var 0))) (.at (.one (.var 1))) 18] (by kernel_rfl) ?_
  refine vc_and64 (x := x) (y := 4294967295) (fun _ => rfl) (fun _ => rfl) rfl (by omega) (by decide) fun v2 h2 => ?_
  rw [Nat.and_two_pow_sub_one_eq_mod x 32] at h2
  rw [e2] at h2
  refine vc_shr64 (x := x) (y := 32) (fun _ => rfl) (fun _ => rfl) rfl (by decide) fun v3 h3 => ?_
  rw [e2] at h3
  refine vc_and64 (x := y) (y := 4294967295) (fun _ => rfl) (fun _ => rfl) rfl (by omega) (by decide) fun v4 h4 => ?_
  rw [Nat.and_two_pow_sub_one_eq_mod y 32] at h4
  rw [e2] at h4
  refine vc_shr64 (x := y) (y := 32) (fun _ => rfl) (fun _ => rfl) rfl (by decide) fun v5 h5 => ?_
  rw [e2] at h5
  refine vc_mul64 (x := v2) (y := v4) (fun _ => rfl) (fun _ => rfl) rfl fun v6 h6 => ?_
  have q6 : v2 * v4 ≤ 4294967295 * 4294967295 := Nat.mul_le_mul (by omega) (by omega)
  rw [Nat.mod_eq_of_lt (by omega)] at h6
  refine vc_mul64 (x := v3) (y := v4) (fun _ => rfl) (fun _ => rfl) rfl fun v7 h7 => ?_
  have q7 : v3 * v4 ≤ 4294967295 * 4294967295 := Nat.mul_le_mul (by omega) (by omega)
  rw [Nat.mod_eq_of_lt (by omega)] at h7
  refine vc_shr64 (x := v6) (y := 32) (fun _ => rfl) (fun _ => rfl) rfl (by decide) fun v8 h8 => ?_
  rw [e2] at h8
  refine vc_add64 (x := v7) (y := v8) (fun _ => rfl) (fun _ => rfl) rfl fun v9 h9 => ?_
  rw [Nat.mod_eq_of_lt (by omega)] at h9
  refine vc_and64 (x := v9) (y := 4294967295) (fun _ => rfl) (fun _ => rfl) rfl (by omega) (by decide) fun v10 h10 => ?_
  rw [Nat.and_two_pow_sub_one_eq_mod v9 32] at h10
  rw [e2] at h10
  refine vc_shr64 (x := v9) (y := 32) (fun _ => rfl) (fun _ => rfl) rfl (by decide) fun v11 h11 => ?_
  rw [e2] at h11
  refine vc_mul64 (x := v2) (y := v5) (fun _ => rfl) (fun _ => rfl) rfl fun v12 h12 => ?_
  have q12 : v2 * v5 ≤ 4294967295 * 4294967295 := Nat.mul_le_mul (by omega) (by omega)
  rw [Nat.mod_eq_of_lt (by omega)] at h12
  refine vc_add64 (x := v10) (y := v12) (fun _ => rfl) (fun _ => rfl) rfl fun v13 h13 => ?_
  rw [Nat.mod_eq_of_lt (by omega)] at h13
  refine vc_mul64 (x := v3) (y := v5) (fun _ => rfl) (fun _ => rfl) rfl fun v14 h14 => ?_
  have q14 : v3 * v5 ≤ 4294967295 * 4294967295 := Nat.mul_le_mul (by omega) (by omega)
  rw [Nat.mod_eq_of_lt (by omega)] at h14
  refine vc_add64 (x := v14) (y := v11) (fun _ => rfl) (fun _ => rfl) rfl fun v15 h15 => ?_
  rw [Nat.mod_eq_of_lt (by omega)] at h15
  refine vc_shr64 (x := v13) (y := 32) (fun _ => rfl) (fun _ => rfl) rfl (by decide) fun v16 h16 => ?_
  rw [e2] at h16
  refine vc_add64 (x := v15) (y := v16) (fun _ => rfl) (fun _ => rfl) rfl fun v17 h17 => ?_
  rw [Nat.mod_eq_of_lt (by omega)] at h17
  refine vc_mul64 (x := x) (y := y) (fun _ => rfl) (fun _ => rfl) rfl fun v18 h18 => ?_
  refine vc_nil ?_
  refine JF.ret (by kernel_rfl) ?_
  refine hE.fin3 19 [U v18, U v17, U v16, U v15, U v14, U v13, U v12, U v11, U v10, U v9, U v8, U v7, U v6, U v5, U v4, U v3, U v2, U y, U x] rfl rfl (cm := []) (ds := [.v (.at (.one (.var 17))), .v (.at (.one (.var 18)))]) (by kernel_rfl) rfl (.inr rfl) ?_
  refine vc_nil ?_
  show Value.tuple #[U v17, U v18] = _
  have hm : x * y = v2 * v4 + 4294967296 * (v3 * v4 + v2 * v5) + 18446744073709551616 * (v3 * v5) := by
    rw [show x = v2 + 4294967296 * v3 by omega, show y = v4 + 4294967296 * v5 by omega]
    exact mul4 4294967296 v2 v3 v4 v5
  have q : v2 * v5 = v12 := by omega
  rw [show v17 = x * y / 18446744073709551616 by omega, show v18 = x * y % 18446744073709551616 by omega]

noncomputable def E_times_0 : Option Ran := ex1 (cfg 38) (fun _ => none) 9 4000 30000 2 (inSt (v2t)) [.c (bodyOf Try.f85)] .nor
theorem c_times : Ctr Try.prog glb0 85 v2t Φtimes := by
  refine ctr (C := cfg 38) mixed ti_ok Try.func85 (by kernel_rfl) ?_
  rintro ds r X Q hl ⟨x, w, hx, hw, rfl, rfl⟩ hE
  obtain ⟨x0, x1, x2, x3, a0, a1, a2, a3, ex, nx⟩ := nums_split hx
  rw [nx]
  refine Jd.go2 (E := E_times_0) 2 [U w, Value.agg #[U x0, U x1, U x2, U x3]] rfl rfl rfl [.isAgg 0 4, .call 90 ⟨none, [.one .v, .one .v], .tup [.one .v, .one .v]⟩ [.one (.a (.part 0 0 4)), .one (.a (.var 1))] 2, .tupc 2 0 3, .tupc 2 1 4, .call 86 ⟨none, [.one .v, .one .v, .one .v], .tup [.one .v, .one .v]⟩ [.one (.a (.var 4)), .one (.a (.lit (.int .u64 0))), .one (.a (.lit (.int .u64 0)))] 5, .tupc 5 0 6, .tupc 5 1 7, .bin .add 24 (.at (.one (.var 3))) (.at (.one (.var 7))) 8, .isOne (.var 6), .call 90 ⟨none, [.one .v, .one .v], .tup [.one .v, .one .v]⟩ [.one (.a (.part 0 1 4)), .one (.a (.var 1))] 9, .tupc 9 0 10, .tupc 9 1 11, .call 86 ⟨none, [.one .v, .one .v, .one .v], .tup [.one .v, .one .v]⟩ [.one (.a (.var 11)), .one (.a (.var 8)), .one (.a (.lit (.int .u64 0)))] 12, .tupc 12 0 13, .tupc 12 1 14, .bin .add 24 (.at (.one (.var 10))) (.at (.one (.var 14))) 15, .isOne (.var 13), .call 90 ⟨none, [.one .v, .one .v], .tup [.one .v, .one .v]⟩ [.one (.a (.part 0 2 4)), .one (.a (.var 1))] 16, .tupc 16 0 17, .tupc 16 1 18, .call 86 ⟨none, [.one .v, .one .v, .one .v], .tup [.one .v, .one .v]⟩ [.one (.a (.var 18)), .one (.a (.var 15)), .one (.a (.lit (.int .u64 0)))] 19, .tupc 19 0 20, .tupc 19 1 21, .bin .add 24 (.at (.one (.var 17))) (.at (.one (.var 21))) 22, .isOne (.var 20), .call 90 ⟨none, [.one .v, .one .v], .tup [.one .v, .one .v]⟩ [.one (.a (.part 0 3 4)), .one (.a (.var 1))] 23, .tupc 23 0 24, .tupc 23 1 25, .call 86 ⟨none, [.one .v, .one .v, .one .v], .tup [.one .v, .one .v]⟩ [.one (.a (.var 25)), .one (.a (.var 22)), .one (.a (.lit (.int .u64 0)))] 26, .tupc 26 0 27, .tupc 26 1 28, .bin .add 24 (.at (.one (.var 24))) (.at (.one (.var 28))) 29, .isOne (.var 27)] (by kernel_rfl) ?_
  refine vc_isAgg rfl rfl rfl ?_
  have f2 := mul_fact x0 w (by omega) (by omega)
  refine vc_call c_Mul64 (ds := [U x0, U w]) (r := Value.tuple #[U ((x0 * w / 18446744073709551616)), U ((x0 * w % 18446744073709551616))]) (fun _ => rfl) rfl (⟨_, _, by omega, by omega, rfl, rfl⟩) ?_
  generalize x0 * w / 18446744073709551616 = h2 at f2 ⊢
  generalize x0 * w % 18446744073709551616 = l2 at f2 ⊢
  refine vc_tupc (fun _ => rfl) rfl rfl ?_
  refine vc_tupc (fun _ => rfl) rfl rfl ?_
  have f5 := add_fact l2 0 0 (by omega) (by omega) (by omega)
  refine vc_call add64 (ds := [U l2, U 0, U 0]) (r := Value.tuple #[U (((l2 + 0 + 0) % 18446744073709551616)), U (((l2 + 0 + 0) / 18446744073709551616))]) (fun _ => rfl) rfl (⟨_, _, _, by omega, rfl, rfl⟩) ?_
  generalize (l2 + 0 + 0) % 18446744073709551616 = s5 at f5 ⊢
  generalize (l2 + 0 + 0) / 18446744073709551616 = c5 at f5 ⊢
  refine vc_tupc (fun _ => rfl) rfl rfl ?_
  refine vc_tupc (fun _ => rfl) rfl rfl ?_
  refine vc_add64 (x := h2) (y := c5) (fun _ => rfl) (fun _ => rfl) rfl fun v8 h8 => ?_
  rw [Nat.mod_eq_of_lt (by omega)] at h8
  refine vc_isOne rfl ?_
  have f9 := mul_fact x1 w (by omega) (by omega)
  refine vc_call c_Mul64 (ds := [U x1, U w]) (r := Value.tuple #[U ((x1 * w / 18446744073709551616)), U ((x1 * w % 18446744073709551616))]) (fun _ => rfl) rfl (⟨_, _, by omega, by omega, rfl, rfl⟩) ?_
  generalize x1 * w / 18446744073709551616 = h9 at f9 ⊢
  generalize x1 * w % 18446744073709551616 = l9 at f9 ⊢
  refine vc_tupc (fun _ => rfl) rfl rfl ?_
  refine vc_tupc (fun _ => rfl) rfl rfl ?_
  have f12 := add_fact l9 v8 0 (by omega) (by omega) (by omega)
  refine vc_call add64 (ds := [U l9, U v8, U 0]) (r := Value.tuple #[U (((l9 + v8 + 0) % 18446744073709551616)), U (((l9 + v8 + 0) / 18446744073709551616))]) (fun _ => rfl) rfl (⟨_, _, _, by omega, rfl, rfl⟩) ?_
  generalize (l9 + v8 + 0) % 18446744073709551616 = s12 at f12 ⊢
  generalize (l9 + v8 + 0) / 18446744073709551616 = c12 at f12 ⊢
  refine vc_tupc (fun _ => rfl) rfl rfl ?_
  refine vc_tupc (fun _ => rfl) rfl rfl ?_
  refine vc_add64 (x := h9) (y := c12) (fun _ => rfl) (fun _ => rfl) rfl fun v15 h15 => ?_
  rw [Nat.mod_eq_of_lt (by omega)] at h15
  refine vc_isOne rfl ?_
  have f16 := mul_fact x2 w (by omega) (by omega)
  refine vc_call c_Mul64 (ds := [U x2, U w]) (r := Value.tuple #[U ((x2 * w / 18446744073709551616)), U ((x2 * w % 18446744073709551616))]) (fun _ => rfl) rfl (⟨_, _, by omega, by omega, rfl, rfl⟩) ?_
  generalize x2 * w / 18446744073709551616 = h16 at f16 ⊢
  generalize x2 * w % 18446744073709551616 = l16 at f16 ⊢
  refine vc_tupc (fun _ => rfl) rfl rfl ?_
  refine vc_tupc (fun _ => rfl) rfl rfl ?_
  have f19 := add_fact l16 v15 0 (by omega) (by omega) (by omega)
  refine vc_call add64 (ds := [U l16, U v15, U 0]) (r := Value.tuple #[U (((l16 + v15 + 0) % 18446744073709551616)), U (((l16 + v15 + 0) / 18446744073709551616))]) (fun _ => rfl) rfl (⟨_, _, _, by omega, rfl, rfl⟩) ?_
  generalize (l16 + v15 + 0) % 18446744073709551616 = s19 at f19 ⊢
  generalize (l16 + v15 + 0) / 18446744073709551616 = c19 at f19 ⊢
  refine vc_tupc (fun _ => rfl) rfl rfl ?_
  refine vc_tupc (fun _ => rfl) rfl rfl ?_
  refine vc_add64 (x := h16) (y := c19) (fun _ => rfl) (fun _ => rfl) rfl fun v22 h22 => ?_
  rw [Nat.mod_eq_of_lt (by omega)] at h22
  refine vc_isOne rfl ?_
  have f23 := mul_fact x3 w (by omega) (by omega)
  refine vc_call c_Mul64 (ds := [U x3, U w]) (r := Value.tuple #[U ((x3 * w / 18446744073709551616)), U ((x3 * w % 18446744073709551616))]) (fun _ => rfl) rfl (⟨_, _, by omega, by omega, rfl, rfl⟩) ?_
  generalize x3 * w / 18446744073709551616 = h23 at f23 ⊢
  generalize x3 * w % 18446744073709551616 = l23 at f23 ⊢
  refine vc_tupc (fun _ => rfl) rfl rfl ?_
  refine vc_tupc (fun _ => rfl) rfl rfl ?_
  have f26 := add_fact l23 v22 0 (by omega) (by omega) (by omega)
  refine vc_call add64 (ds := [U l23, U v22, U 0]) (r := Value.tuple #[U (((l23 + v22 + 0) % 18446744073709551616)), U (((l23 + v22 + 0) / 18446744073709551616))]) (fun _ => rfl) rfl (⟨_, _, _, by omega, rfl, rfl⟩) ?_
  generalize (l23 + v22 + 0) % 18446744073709551616 = s26 at f26 ⊢
  generalize (l23 + v22 + 0) / 18446744073709551616 = c26 at f26 ⊢
  refine vc_tupc (fun _ => rfl) rfl rfl ?_
  refine vc_tupc (fun _ => rfl) rfl rfl ?_
  refine vc_add64 (x := h23) (y := c26) (fun _ => rfl) (fun _ => rfl) rfl fun v29 h29 => ?_
  rw [Nat.mod_eq_of_lt (by omega)] at h29
  refine vc_isOne rfl ?_
  refine vc_nil ?_
  refine JF.ret (by kernel_rfl) ?_
  refine hE.fin3 30 [U v29, U c26, U s26, Value.tuple #[U s26, U c26], U l23, U h23, Value.tuple #[U h23, U l23], U v22, U c19, U s19, Value.tuple #[U s19, U c19], U l16, U h16, Value.tuple #[U h16, U l16], U v15, U c12, U s12, Value.tuple #[U s12, U c12], U l9, U h9, Value.tuple #[U h9, U l9], U v8, U c5, U s5, Value.tuple #[U s5, U c5], U l2, U h2, Value.tuple #[U h2, U l2], U w, Value.agg #[U x0, U x1, U x2, U x3]] rfl rfl (cm := []) (ds := [.v (.at (.agg [.var 6, .var 13, .var 20, .var 27])), .v (.at (.one (.var 29)))]) (by kernel_rfl) rfl (.inr rfl) ?_
  refine vc_nil ?_
  show Value.tuple #[Value.agg #[U s5, U s12, U s19, U s26], U v29] = _
  have hm : x * w = x0 * w + 18446744073709551616 * (x1 * w + 18446744073709551616 * (x2 * w + 18446744073709551616 * (x3 * w))) := by
    rw [ex]; simp only [Nat.add_mul, Nat.mul_assoc]
  generalize x * w = p at *
  rw [show v29 = p / 115792089237316195423570985008687907853269984665640564039457584007913129639936 by omega]
  rw [nums_words (n := p % 115792089237316195423570985008687907853269984665640564039457584007913129639936) (a := s5) (b := s12) (c := s19) (d := s26) (by omega) (by omega) (by omega) (by omega) (by omega)]

end Go.Proofs.Ytpeafegfjhljmaa

/-
  Functions of the program: what each computes.
-/
open Go Go.Sx Go.Proofs
open Ed (F P inv pw Pt)
namespace Go.Proofs.Ytpeafegfjhljmaa
set_option maxRecDepth 100000
set_option maxHeartbeats 4000000
noncomputable def E_small_0 : Option Ran := ex1 (cfg 14) (fun _ => none) 0 4000 30000 1 (inSt (v1v)) [.c (bodyOf Try.f53)] .nor
def T_small : St := ⟨[(2, .at (.one (.ptr 30004 0))), (1, .at (.one (.ptr 30000 0)))], [(30004, some ⟨.lst [.lit (.int .u64 0), .lit (.int .u64 0), .lit (.int .u64 0), .lit (.int .u64 0)], 0, none⟩), (30000, some ⟨.lst [.part 1 0 4, .part 1 1 4, .part 1 2 4, .part 1 3 4], 0, none⟩)], [(30004, true), (30000, true)]⟩
noncomputable def E_small_1 : Option Ran := ex1 (cfg 14) (fun n => if n = 4 then some false else none) 0 4000 50000 2 (T_small) [.c (codeF E_small_0)] .nor
noncomputable def E_small_2 : Option Ran := ex1 (cfg 14) (fun _ => none) 0 4000 70000 5 (stOf E_small_1) (kontF E_small_0) (.exit 0)
noncomputable def E_small_3 : Option Ran := ex1 (cfg 14) (fun n => if n = 4 then some true else none) 0 4000 90000 2 (T_small) [.c (codeF E_small_0)] .nor
theorem c_small : Ctr Try.prog glb0 53 v1v Φsmall := by
  refine ctr (C := cfg 14) mixed ti_ok Try.func53 (by kernel_rfl) ?_
  rintro ds r X Q hl ⟨x, hx, rfl, rfl⟩ hE
  refine Jd.go2 (E := E_small_0) 1 [nums [x]] rfl rfl rfl [.isAgg 0 4] (by kernel_rfl) ?_
  refine vc_isAgg rfl rfl rfl ?_
  refine vc_nil ?_
  refine JF.loop (by kernel_rfl) ?_
  refine Jd.loop (T := T_small) (m := 1) (Inv := fun n xs => ∃ y, xs = [nums [y]] ∧ y < 115792089237316195423570985008687907853269984665640564039457584007913129639936 ∧ ofN y = ofN x ∧ n = y) (n0 := x) (τ := [.at (.one (.var 0))]) (π := []) (by kernel_rfl) (by kernel_rfl) ?_ fun n xs hlen hI => ?_
  · exact ⟨x, rfl, hx, rfl, rfl⟩
  obtain ⟨y, rfl, hy, hyx, rfl⟩ := hI
  by_cases hp : n < P
  · refine Jd.go2 (E := E_small_1) 2 [nums [n], nums [x]] rfl rfl rfl [.isAgg 1 4, .call 18 ⟨none, [], .two (.one .v)⟩ [] 2, .call 17 ⟨none, [.one .v, .one .v], .two (.one .v)⟩ [.one (.a (.var 1)), .one (.a (.var 2))] 3, .un .not (.at (.one (.var 3))) 4, .isBool 4 false] (by kernel_rfl) ?_
    refine vc_isAgg rfl rfl rfl ?_
    refine vc_call c_prime (ds := []) (r := nums [Ed.P]) (fun _ => rfl) rfl (⟨rfl, rfl⟩) ?_
    refine vc_call c_less (ds := [nums [n], nums [Ed.P]]) (r := Bo (decide (n < Ed.P))) (fun _ => rfl) rfl (⟨_, _, hy, (by decide), rfl, rfl⟩) ?_
    refine vc_not (fun _ => rfl) rfl ?_
    refine vc_isBool (by simp [lr, Bo, hp]) ?_
    refine vc_nil ?_
    refine JF.exit (n := 0) (by kernel_rfl) ?_
    refine Jd.out (by simp) ?_
    refine Jd.go2 (E := E_small_2) 5 [Bo (!(decide (n < Ed.P))), Bo (decide (n < Ed.P)), nums [Ed.P], nums [n], nums [x]] rfl rfl rfl [.isAgg 1 4, .isAgg 1 4] (by kernel_rfl) ?_
    refine vc_isAgg rfl rfl rfl ?_
    refine vc_isAgg rfl rfl rfl ?_
    refine vc_nil ?_
    refine JF.ret (by kernel_rfl) ?_
    refine hE.fin3 5 [Bo (!(decide (n < Ed.P))), Bo (decide (n < Ed.P)), nums [Ed.P], nums [n], nums [x]] rfl rfl (cm := [.isAgg 1 4]) (ds := [.v (.at (.one (.var 1)))]) (by kernel_rfl) rfl (.inr rfl) ?_
    refine vc_isAgg rfl rfl rfl ?_
    refine vc_nil ?_
    show nums [n] = _
    rw [← hyx, show ofN n = ⟨n, hp⟩ from Fin.ext (Nat.mod_eq_of_lt hp)]; rfl
  · refine Jd.go2 (E := E_small_3) 2 [nums [n], nums [x]] rfl rfl rfl [.isAgg 1 4, .call 18 ⟨none, [], .two (.one .v)⟩ [] 2, .call 17 ⟨none, [.one .v, .one .v], .two (.one .v)⟩ [.one (.a (.var 1)), .one (.a (.var 2))] 3, .un .not (.at (.one (.var 3))) 4, .isBool 4 true, .isAgg 1 4, .call 18 ⟨none, [], .two (.one .v)⟩ [] 5, .call 52 ⟨none, [.one .v, .one .v], .tup [.one .v, .one .v]⟩ [.one (.a (.var 1)), .one (.a (.var 5))] 6, .tupc 6 0 7, .tupc 6 1 8, .isAgg 7 4] (by kernel_rfl) ?_
    refine vc_isAgg rfl rfl rfl ?_
    refine vc_call c_prime (ds := []) (r := nums [Ed.P]) (fun _ => rfl) rfl (⟨rfl, rfl⟩) ?_
    refine vc_call c_less (ds := [nums [n], nums [Ed.P]]) (r := Bo (decide (n < Ed.P))) (fun _ => rfl) rfl (⟨_, _, hy, (by decide), rfl, rfl⟩) ?_
    refine vc_not (fun _ => rfl) rfl ?_
    refine vc_isBool (by simp [lr, Bo, hp]) ?_
    refine vc_isAgg rfl rfl rfl ?_
    refine vc_call c_prime (ds := []) (r := nums [Ed.P]) (fun _ => rfl) rfl (⟨rfl, rfl⟩) ?_
    refine vc_call c_minus (ds := [nums [n], nums [Ed.P]]) (r := Value.tuple #[nums [(n + 115792089237316195423570985008687907853269984665640564039457584007913129639936 - Ed.P) % 115792089237316195423570985008687907853269984665640564039457584007913129639936], U ((if n < Ed.P then 1 else 0))]) (fun _ => rfl) rfl (⟨_, _, hy, (by decide), rfl, rfl⟩) ?_
    refine vc_tupc (fun _ => rfl) rfl rfl ?_
    refine vc_tupc (fun _ => rfl) rfl rfl ?_
    refine vc_isAgg rfl rfl rfl ?_
    refine vc_nil ?_
    refine JF.nor (by kernel_rfl) ?_
    exact Jd.next (m := 1) (τ := [.at (.one (.var 7))]) (π := []) (n - P) (by kernel_rfl) (by kernel_rfl) (by kernel_rfl) (by have := Ed.P_pos; omega) (⟨n - P, by rw [show (n + 115792089237316195423570985008687907853269984665640564039457584007913129639936 - P) % 115792089237316195423570985008687907853269984665640564039457584007913129639936 = n - P by unfold Ed.P at *; omega]; rfl, by omega, by rw [ofN_sub (by omega), ofN_P, hyx]; grind, rfl⟩)

end Go.Proofs.Ytpeafegfjhljmaa

/-
  Functions of the program: what each computes.
-/
open Go Go.Sx Go.Proofs
open Ed (F P inv pw Pt)
namespace Go.Proofs.Ytpeafegfjhljmaa
set_option maxRecDepth 100000
set_option maxHeartbeats 4000000
theorem row_sum {a0 a1 a2 a3 p0 p1 p2 p3 s0 s1 s2 s3 c0 c1 c2 c3 m : Nat} (f0 : s0 + 18446744073709551616 * c0 = a0 + p0 + 0) (f1 : s1 + 18446744073709551616 * c1 = a1 + p1 + c0) (f2 : s2 + 18446744073709551616 * c2 = a2 + p2 + c1) (f3 : s3 + 18446744073709551616 * c3 = a3 + p3 + c2)
    (em : m = p0 + 18446744073709551616 * (p1 + 18446744073709551616 * (p2 + 18446744073709551616 * p3))) : s0 + 18446744073709551616 * (s1 + 18446744073709551616 * (s2 + 18446744073709551616 * s3)) + 115792089237316195423570985008687907853269984665640564039457584007913129639936 * c3 = a0 + 18446744073709551616 * (a1 + 18446744073709551616 * (a2 + 18446744073709551616 * a3)) + m := by omega
theorem row_top {s A m o q c : Nat} (hA : A < 115792089237316195423570985008687907853269984665640564039457584007913129639936) (g : s + 115792089237316195423570985008687907853269984665640564039457584007913129639936 * c = A + m) (hq : m + 115792089237316195423570985008687907853269984665640564039457584007913129639936 * o = q) (hl : q ≤ 115792089237316195423570985008687907853269984665640564039457584007913129639935 * 18446744073709551615) : o + c < 18446744073709551616 := by omega
theorem words_lt {a b c d : Nat} (ha : a < 18446744073709551616) (hb : b < 18446744073709551616) (hc : c < 18446744073709551616) (hd : d < 18446744073709551616) : a + 18446744073709551616 * (b + 18446744073709551616 * (c + 18446744073709551616 * d)) < 115792089237316195423570985008687907853269984665640564039457584007913129639936 := by omega
theorem rows_all {m0 m1 m2 m3 o0 o1 o2 o3 c0 c1 c2 c3 r0 r1 r2 r3 a1 a2 a3 a4 b1 b2 b3 b4 e1 e2 e3 e4 p u1 u2 u3 : Nat} (hp : p = (m0 + 115792089237316195423570985008687907853269984665640564039457584007913129639936 * o0) + 18446744073709551616 * ((m1 + 115792089237316195423570985008687907853269984665640564039457584007913129639936 * o1) + 18446744073709551616 * ((m2 + 115792089237316195423570985008687907853269984665640564039457584007913129639936 * o2) + 18446744073709551616 * (m3 + 115792089237316195423570985008687907853269984665640564039457584007913129639936 * o3))))
    (g0 : r0 + 18446744073709551616 * (a1 + 18446744073709551616 * (a2 + 18446744073709551616 * a3)) + 115792089237316195423570985008687907853269984665640564039457584007913129639936 * c0 = 0 + 18446744073709551616 * (0 + 18446744073709551616 * (0 + 18446744073709551616 * 0)) + m0) (h0 : a4 = o0 + c0)
    (g1 : r1 + 18446744073709551616 * (b1 + 18446744073709551616 * (b2 + 18446744073709551616 * b3)) + 115792089237316195423570985008687907853269984665640564039457584007913129639936 * c1 = a1 + 18446744073709551616 * (a2 + 18446744073709551616 * (a3 + 18446744073709551616 * a4)) + m1) (h1 : b4 = o1 + c1)
    (g2 : r2 + 18446744073709551616 * (e1 + 18446744073709551616 * (e2 + 18446744073709551616 * e3)) + 115792089237316195423570985008687907853269984665640564039457584007913129639936 * c2 = b1 + 18446744073709551616 * (b2 + 18446744073709551616 * (b3 + 18446744073709551616 * b4)) + m2) (h2 : e4 = o2 + c2)
    (g3 : r3 + 18446744073709551616 * (u1 + 18446744073709551616 * (u2 + 18446744073709551616 * u3)) + 115792089237316195423570985008687907853269984665640564039457584007913129639936 * c3 = e1 + 18446744073709551616 * (e2 + 18446744073709551616 * (e3 + 18446744073709551616 * e4)) + m3) :
    p = r0 + 18446744073709551616 * (r1 + 18446744073709551616 * (r2 + 18446744073709551616 * r3)) + 115792089237316195423570985008687907853269984665640564039457584007913129639936 * (u1 + 18446744073709551616 * (u2 + 18446744073709551616 * (u3 + 18446744073709551616 * (o3 + c3)))) := by omega
noncomputable def E_add_0 : Option Ran := ex1 (cfg 15) (fun _ => none) 0 4000 30000 2 (inSt (v2v)) [.c (bodyOf Try.f56)] .nor
theorem c_add : Ctr Try.prog glb0 56 v2v Φadd := by
  refine ctr (C := cfg 15) mixed ti_ok Try.func56 (by kernel_rfl) ?_
  rintro ds r X Q hl ⟨x, y, rfl, rfl⟩ hE
  refine Jd.go2 (E := E_add_0) 2 [fn [y], fn [x]] rfl rfl rfl [.isAgg 0 4, .isAgg 1 4, .isAgg 0 4, .isAgg 1 4, .call 72 ⟨none, [.one .v, .one .v], .tup [.one .v, .one .v]⟩ [.one (.a (.var 0)), .one (.a (.var 1))] 2, .tupc 2 0 3, .tupc 2 1 4, .isAgg 3 4, .isAgg 3 4, .call 53 ⟨none, [.one .v], .two (.one .v)⟩ [.one (.a (.var 3))] 5, .isAgg 5 4] (by kernel_rfl) ?_
  refine vc_isAgg rfl rfl rfl ?_
  refine vc_isAgg rfl rfl rfl ?_
  refine vc_isAgg rfl rfl rfl ?_
  refine vc_isAgg rfl rfl rfl ?_
  refine vc_call c_plus (ds := [nums [x.val], nums [y.val]]) (r := Value.tuple #[nums [(x.val + y.val) % 115792089237316195423570985008687907853269984665640564039457584007913129639936], U (((x.val + y.val) / 115792089237316195423570985008687907853269984665640564039457584007913129639936))]) (fun _ => rfl) rfl (⟨_, _, (F_lt x), (F_lt y), rfl, rfl⟩) ?_
  refine vc_tupc (fun _ => rfl) rfl rfl ?_
  refine vc_tupc (fun _ => rfl) rfl rfl ?_
  refine vc_isAgg rfl rfl rfl ?_
  refine vc_isAgg rfl rfl rfl ?_
  refine vc_call c_small (ds := [nums [(x.val + y.val) % 115792089237316195423570985008687907853269984665640564039457584007913129639936]]) (r := fn [ofN ((x.val + y.val) % 115792089237316195423570985008687907853269984665640564039457584007913129639936)]) (fun _ => rfl) rfl (⟨_, (Nat.mod_lt _ (by decide)), rfl, rfl⟩) ?_
  refine vc_isAgg rfl rfl rfl ?_
  refine vc_nil ?_
  refine JF.ret (by kernel_rfl) ?_
  refine hE.fin3 6 [fn [ofN ((x.val + y.val) % 115792089237316195423570985008687907853269984665640564039457584007913129639936)], U (((x.val + y.val) / 115792089237316195423570985008687907853269984665640564039457584007913129639936)), nums [(x.val + y.val) % 115792089237316195423570985008687907853269984665640564039457584007913129639936], Value.tuple #[nums [(x.val + y.val) % 115792089237316195423570985008687907853269984665640564039457584007913129639936], U (((x.val + y.val) / 115792089237316195423570985008687907853269984665640564039457584007913129639936))], fn [y], fn [x]] rfl rfl (cm := [.isAgg 5 4]) (ds := [.v (.at (.one (.var 5)))]) (by kernel_rfl) rfl (.inr rfl) ?_
  refine vc_isAgg rfl rfl rfl ?_
  refine vc_nil ?_
  show fn [ofN ((x.val + y.val) % 115792089237316195423570985008687907853269984665640564039457584007913129639936)] = _
  rw [show ofN ((x.val + y.val) % 115792089237316195423570985008687907853269984665640564039457584007913129639936) = x + y from Fin.ext (by have := x.isLt; have := y.isLt; have h2 : P + P < 115792089237316195423570985008687907853269984665640564039457584007913129639936 := (by decide); show (x.val + y.val) % 115792089237316195423570985008687907853269984665640564039457584007913129639936 % P = (x.val + y.val) % P; rw [Nat.mod_eq_of_lt (a := x.val + y.val) (by omega)])]

noncomputable def E_Sub_0 : Option Ran := ex1 (cfg 19) (fun _ => none) 0 4000 30000 2 (inSt (v2v)) [.c (bodyOf Try.f21)] .nor
theorem c_Sub : Ctr Try.prog glb0 21 v2v ΦSub := by
  refine ctr (C := cfg 19) mixed ti_ok Try.func21 (by kernel_rfl) ?_
  rintro ds r X Q hl ⟨x, y, hx, hy, rfl, rfl⟩ hE
  refine Jd.go2 (E := E_Sub_0) 2 [nums [y], nums [x]] rfl rfl rfl [.isAgg 0 4, .isAgg 1 4, .call 18 ⟨none, [], .two (.one .v)⟩ [] 2, .isAgg 1 4, .call 53 ⟨none, [.one .v], .two (.one .v)⟩ [.one (.a (.var 1))] 3, .call 52 ⟨none, [.one .v, .one .v], .tup [.one .v, .one .v]⟩ [.one (.a (.var 2)), .one (.a (.var 3))] 4, .tupc 4 0 5, .tupc 4 1 6, .isAgg 5 4, .isAgg 0 4, .call 53 ⟨none, [.one .v], .two (.one .v)⟩ [.one (.a (.var 0))] 7, .isAgg 5 4, .call 53 ⟨none, [.one .v], .two (.one .v)⟩ [.one (.a (.var 5))] 8, .call 56 ⟨none, [.one .v, .one .v], .two (.one .v)⟩ [.one (.a (.var 7)), .one (.a (.var 8))] 9, .isAgg 9 4] (by kernel_rfl) ?_
  refine vc_isAgg rfl rfl rfl ?_
  refine vc_isAgg rfl rfl rfl ?_
  refine vc_call c_prime (ds := []) (r := nums [Ed.P]) (fun _ => rfl) rfl (⟨rfl, rfl⟩) ?_
  refine vc_isAgg rfl rfl rfl ?_
  refine vc_call c_small (ds := [nums [y]]) (r := fn [ofN y]) (fun _ => rfl) rfl (⟨_, hy, rfl, rfl⟩) ?_
  refine vc_call c_minus (ds := [nums [Ed.P], nums [(ofN y).val]]) (r := Value.tuple #[nums [(Ed.P + 115792089237316195423570985008687907853269984665640564039457584007913129639936 - (ofN y).val) % 115792089237316195423570985008687907853269984665640564039457584007913129639936], U ((if Ed.P < (ofN y).val then 1 else 0))]) (fun _ => rfl) rfl (⟨_, _, (by decide), (F_lt (ofN y)), rfl, rfl⟩) ?_
  refine vc_tupc (fun _ => rfl) rfl rfl ?_
  refine vc_tupc (fun _ => rfl) rfl rfl ?_
  refine vc_isAgg rfl rfl rfl ?_
  refine vc_isAgg rfl rfl rfl ?_
  refine vc_call c_small (ds := [nums [x]]) (r := fn [ofN x]) (fun _ => rfl) rfl (⟨_, hx, rfl, rfl⟩) ?_
  refine vc_isAgg rfl rfl rfl ?_
  refine vc_call c_small (ds := [nums [(Ed.P + 115792089237316195423570985008687907853269984665640564039457584007913129639936 - (ofN y).val) % 115792089237316195423570985008687907853269984665640564039457584007913129639936]]) (r := fn [ofN ((Ed.P + 115792089237316195423570985008687907853269984665640564039457584007913129639936 - (ofN y).val) % 115792089237316195423570985008687907853269984665640564039457584007913129639936)]) (fun _ => rfl) rfl (⟨_, (Nat.mod_lt _ (by decide)), rfl, rfl⟩) ?_
  refine vc_call c_add (ds := [fn [ofN x], fn [ofN ((Ed.P + 115792089237316195423570985008687907853269984665640564039457584007913129639936 - (ofN y).val) % 115792089237316195423570985008687907853269984665640564039457584007913129639936)]]) (r := fn [(ofN x) + (ofN ((Ed.P + 115792089237316195423570985008687907853269984665640564039457584007913129639936 - (ofN y).val) % 115792089237316195423570985008687907853269984665640564039457584007913129639936))]) (fun _ => rfl) rfl (⟨_, _, rfl, rfl⟩) ?_
  refine vc_isAgg rfl rfl rfl ?_
  refine vc_nil ?_
  refine JF.ret (by kernel_rfl) ?_
  refine hE.fin3 10 [fn [(ofN x) + (ofN ((Ed.P + 115792089237316195423570985008687907853269984665640564039457584007913129639936 - (ofN y).val) % 115792089237316195423570985008687907853269984665640564039457584007913129639936))], fn [ofN ((Ed.P + 115792089237316195423570985008687907853269984665640564039457584007913129639936 - (ofN y).val) % 115792089237316195423570985008687907853269984665640564039457584007913129639936)], fn [ofN x], U ((if Ed.P < (ofN y).val then 1 else 0)), nums [(Ed.P + 115792089237316195423570985008687907853269984665640564039457584007913129639936 - (ofN y).val) % 115792089237316195423570985008687907853269984665640564039457584007913129639936], Value.tuple #[nums [(Ed.P + 115792089237316195423570985008687907853269984665640564039457584007913129639936 - (ofN y).val) % 115792089237316195423570985008687907853269984665640564039457584007913129639936], U ((if Ed.P < (ofN y).val then 1 else 0))], fn [ofN y], nums [Ed.P], nums [y], nums [x]] rfl rfl (cm := [.isAgg 9 4]) (ds := [.v (.at (.one (.var 9)))]) (by kernel_rfl) rfl (.inr rfl) ?_
  refine vc_isAgg rfl rfl rfl ?_
  refine vc_nil ?_
  show fn [(ofN x) + (ofN ((Ed.P + 115792089237316195423570985008687907853269984665640564039457584007913129639936 - (ofN y).val) % 115792089237316195423570985008687907853269984665640564039457584007913129639936))] = _
  rw [show ((Ed.P + 115792089237316195423570985008687907853269984665640564039457584007913129639936 - (ofN y).val) % 115792089237316195423570985008687907853269984665640564039457584007913129639936) = P - (ofN y).val by have := (ofN y).isLt; unfold Ed.P at *; omega, ofN_sub (Nat.le_of_lt (ofN y).isLt), ofN_P, ofN_val]
  congr 2; grind

noncomputable def E_product_0 : Option Ran := ex1 (cfg 52) (fun _ => none) 9 4000 30000 2 (inSt (v2v)) [.c (bodyOf Try.f71)] .nor
theorem c_product : Ctr Try.prog glb0 71 v2v Φproduct := by
  refine ctr (C := cfg 52) mixed ti_ok Try.func71 (by kernel_rfl) ?_
  rintro ds r X Q hl ⟨x, y, hx, hy, rfl, rfl⟩ hE
  obtain ⟨y0, y1, y2, y3, b0, b1, b2, b3, ey, ny⟩ := nums_split hy
  rw [ny]
  refine Jd.go2 (E := E_product_0) 2 [Value.agg #[U y0, U y1, U y2, U y3], nums [x]] rfl rfl rfl [.isAgg 0 4, .isAgg 1 4, .isAgg 1 4, .ext 0 (.index 26 (.tmp 0) (.tmp 1)) [.at (.one (.var 1)), .at (.one (.lit (.int .i64 0)))] 2, .isAgg 0 4, .call 85 ⟨none, [.one .v, .one .v], .tup [.one .v, .one .v]⟩ [.one (.a (.var 0)), .one (.a (.var 2))] 3, .tupc 3 0 4, .tupc 3 1 5, .isAgg 4 4, .call 86 ⟨none, [.one .v, .one .v, .one .v], .tup [.one .v, .one .v]⟩ [.one (.a (.lit (.int .u64 0))), .one (.a (.part 4 0 4)), .one (.a (.lit (.int .u64 0)))] 6, .tupc 6 0 7, .tupc 6 1 8, .isOne (.var 7), .call 86 ⟨none, [.one .v, .one .v, .one .v], .tup [.one .v, .one .v]⟩ [.one (.a (.lit (.int .u64 0))), .one (.a (.part 4 1 4)), .one (.a (.var 8))] 9, .tupc 9 0 10, .tupc 9 1 11, .isOne (.var 10), .call 86 ⟨none, [.one .v, .one .v, .one .v], .tup [.one .v, .one .v]⟩ [.one (.a (.lit (.int .u64 0))), .one (.a (.part 4 2 4)), .one (.a (.var 11))] 12, .tupc 12 0 13, .tupc 12 1 14, .isOne (.var 13), .call 86 ⟨none, [.one .v, .one .v, .one .v], .tup [.one .v, .one .v]⟩ [.one (.a (.lit (.int .u64 0))), .one (.a (.part 4 3 4)), .one (.a (.var 14))] 15, .tupc 15 0 16, .tupc 15 1 17, .isOne (.var 16), .bin .add 24 (.at (.one (.var 5))) (.at (.one (.var 17))) 18, .isOne (.var 18), .ext 0 (.index 26 (.tmp 0) (.tmp 1)) [.at (.one (.var 1)), .at (.one (.lit (.int .i64 1)))] 19, .isAgg 0 4, .call 85 ⟨none, [.one .v, .one .v], .tup [.one .v, .one .v]⟩ [.one (.a (.var 0)), .one (.a (.var 19))] 20, .tupc 20 0 21, .tupc 20 1 22, .isAgg 21 4, .call 86 ⟨none, [.one .v, .one .v, .one .v], .tup [.one .v, .one .v]⟩ [.one (.a (.var 10)), .one (.a (.part 21 0 4)), .one (.a (.lit (.int .u64 0)))] 23, .tupc 23 0 24, .tupc 23 1 25, .isOne (.var 24), .call 86 ⟨none, [.one .v, .one .v, .one .v], .tup [.one .v, .one .v]⟩ [.one (.a (.var 13)), .one (.a (.part 21 1 4)), .one (.a (.var 25))] 26, .tupc 26 0 27, .tupc 26 1 28, .isOne (.var 27), .call 86 ⟨none, [.one .v, .one .v, .one .v], .tup [.one .v, .one .v]⟩ [.one (.a (.var 16)), .one (.a (.part 21 2 4)), .one (.a (.var 28))] 29, .tupc 29 0 30, .tupc 29 1 31, .isOne (.var 30), .call 86 ⟨none, [.one .v, .one .v, .one .v], .tup [.one .v, .one .v]⟩ [.one (.a (.var 18)), .one (.a (.part 21 3 4)), .one (.a (.var 31))] 32, .tupc 32 0 33, .tupc 32 1 34, .isOne (.var 33), .bin .add 24 (.at (.one (.var 22))) (.at (.one (.var 34))) 35, .isOne (.var 35), .ext 0 (.index 26 (.tmp 0) (.tmp 1)) [.at (.one (.var 1)), .at (.one (.lit (.int .i64 2)))] 36, .isAgg 0 4, .call 85 ⟨none, [.one .v, .one .v], .tup [.one .v, .one .v]⟩ [.one (.a (.var 0)), .one (.a (.var 36))] 37, .tupc 37 0 38, .tupc 37 1 39, .isAgg 38 4, .call 86 ⟨none, [.one .v, .one .v, .one .v], .tup [.one .v, .one .v]⟩ [.one (.a (.var 27)), .one (.a (.part 38 0 4)), .one (.a (.lit (.int .u64 0)))] 40, .tupc 40 0 41, .tupc 40 1 42, .isOne (.var 41), .call 86 ⟨none, [.one .v, .one .v, .one .v], .tup [.one .v, .one .v]⟩ [.one (.a (.var 30)), .one (.a (.part 38 1 4)), .one (.a (.var 42))] 43, .tupc 43 0 44, .tupc 43 1 45, .isOne (.var 44), .call 86 ⟨none, [.one .v, .one .v, .one .v], .tup [.one .v, .one .v]⟩ [.one (.a (.var 33)), .one (.a (.part 38 2 4)), .one (.a (.var 45))] 46, .tupc 46 0 47, .tupc 46 1 48, .isOne (.var 47), .call 86 ⟨none, [.one .v, .one .v, .one .v], .tup [.one .v, .one .v]⟩ [.one (.a (.var 35)), .one (.a (.part 38 3 4)), .one (.a (.var 48))] 49, .tupc 49 0 50, .tupc 49 1 51, .isOne (.var 50), .bin .add 24 (.at (.one (.var 39))) (.at (.one (.var 51))) 52, .isOne (.var 52), .ext 0 (.index 26 (.tmp 0) (.tmp 1)) [.at (.one (.var 1)), .at (.one (.lit (.int .i64 3)))] 53, .isAgg 0 4, .call 85 ⟨none, [.one .v, .one .v], .tup [.one .v, .one .v]⟩ [.one (.a (.var 0)), .one (.a (.var 53))] 54, .tupc 54 0 55, .tupc 54 1 56, .isAgg 55 4, .call 86 ⟨none, [.one .v, .one .v, .one .v], .tup [.one .v, .one .v]⟩ [.one (.a (.var 44)), .one (.a (.part 55 0 4)), .one (.a (.lit (.int .u64 0)))] 57, .tupc 57 0 58, .tupc 57 1 59, .isOne (.var 58), .call 86 ⟨none, [.one .v, .one .v, .one .v], .tup [.one .v, .one .v]⟩ [.one (.a (.var 47)), .one (.a (.part 55 1 4)), .one (.a (.var 59))] 60, .tupc 60 0 61, .tupc 60 1 62, .isOne (.var 61), .call 86 ⟨none, [.one .v, .one .v, .one .v], .tup [.one .v, .one .v]⟩ [.one (.a (.var 50)), .one (.a (.part 55 2 4)), .one (.a (.var 62))] 63, .tupc 63 0 64, .tupc 63 1 65, .isOne (.var 64), .call 86 ⟨none, [.one .v, .one .v, .one .v], .tup [.one .v, .one .v]⟩ [.one (.a (.var 52)), .one (.a (.part 55 3 4)), .one (.a (.var 65))] 66, .tupc 66 0 67, .tupc 66 1 68, .isOne (.var 67), .bin .add 24 (.at (.one (.var 56))) (.at (.one (.var 68))) 69, .isOne (.var 69)] (by kernel_rfl) ?_
  refine vc_isAgg rfl rfl rfl ?_
  refine vc_isAgg rfl rfl rfl ?_
  refine vc_isAgg rfl rfl rfl ?_
  refine vc_index (m := 4) (e := 24) (q := .u64) (i := 0) (r := U y0) (by kernel_rfl) (by kernel_rfl) (by kernel_rfl) (by kernel_rfl) (fun _ => rfl) (fun _ => rfl) (by decide) rfl rfl ?_
  refine vc_isAgg rfl rfl rfl ?_
  have lt0 : x * y0 % 115792089237316195423570985008687907853269984665640564039457584007913129639936 < 115792089237316195423570985008687907853269984665640564039457584007913129639936 := Nat.mod_lt _ (by decide)
  obtain ⟨p00, p01, p02, p03, pa0, pb0, pc0, pd0, ep0, np0⟩ := nums_split lt0
  have pm0 := Nat.mod_add_div (x * y0) 115792089237316195423570985008687907853269984665640564039457584007913129639936
  have pl0 : x * y0 ≤ 115792089237316195423570985008687907853269984665640564039457584007913129639935 * 18446744073709551615 := Nat.mul_le_mul (by omega) (by omega)
  refine vc_call c_times (ds := [nums [x], U y0]) (r := .tuple #[.agg #[U p00, U p01, U p02, U p03], U (x * y0 / 115792089237316195423570985008687907853269984665640564039457584007913129639936)]) (fun _ => rfl) rfl (⟨x, y0, hx, by omega, rfl, by rw [np0]⟩) ?_
  generalize x * y0 / 115792089237316195423570985008687907853269984665640564039457584007913129639936 = o0 at pm0 ⊢
  generalize x * y0 % 115792089237316195423570985008687907853269984665640564039457584007913129639936 = m0 at pm0 ep0 lt0
  refine vc_tupc (fun _ => rfl) rfl rfl ?_
  refine vc_tupc (fun _ => rfl) rfl rfl ?_
  refine vc_isAgg rfl rfl rfl ?_
  have f6 := add_fact 0 p00 0 (by omega) (by omega) (by omega)
  refine vc_call add64 (ds := [U 0, U p00, U 0]) (r := Value.tuple #[U (((0 + p00 + 0) % 18446744073709551616)), U (((0 + p00 + 0) / 18446744073709551616))]) (fun _ => rfl) rfl (⟨_, _, _, by omega, rfl, rfl⟩) ?_
  generalize (0 + p00 + 0) % 18446744073709551616 = s6 at f6 ⊢
  generalize (0 + p00 + 0) / 18446744073709551616 = c6 at f6 ⊢
  refine vc_tupc (fun _ => rfl) rfl rfl ?_
  refine vc_tupc (fun _ => rfl) rfl rfl ?_
  refine vc_isOne rfl ?_
  have f9 := add_fact 0 p01 c6 (by omega) (by omega) (by omega)
  refine vc_call add64 (ds := [U 0, U p01, U c6]) (r := Value.tuple #[U (((0 + p01 + c6) % 18446744073709551616)), U (((0 + p01 + c6) / 18446744073709551616))]) (fun _ => rfl) rfl (⟨_, _, _, by omega, rfl, rfl⟩) ?_
  generalize (0 + p01 + c6) % 18446744073709551616 = s9 at f9 ⊢
  generalize (0 + p01 + c6) / 18446744073709551616 = c9 at f9 ⊢
  refine vc_tupc (fun _ => rfl) rfl rfl ?_
  refine vc_tupc (fun _ => rfl) rfl rfl ?_
  refine vc_isOne rfl ?_
  have f12 := add_fact 0 p02 c9 (by omega) (by omega) (by omega)
  refine vc_call add64 (ds := [U 0, U p02, U c9]) (r := Value.tuple #[U (((0 + p02 + c9) % 18446744073709551616)), U (((0 + p02 + c9) / 18446744073709551616))]) (fun _ => rfl) rfl (⟨_, _, _, by omega, rfl, rfl⟩) ?_
  generalize (0 + p02 + c9) % 18446744073709551616 = s12 at f12 ⊢
  generalize (0 + p02 + c9) / 18446744073709551616 = c12 at f12 ⊢
  refine vc_tupc (fun _ => rfl) rfl rfl ?_
  refine vc_tupc (fun _ => rfl) rfl rfl ?_
  refine vc_isOne rfl ?_
  have f15 := add_fact 0 p03 c12 (by omega) (by omega) (by omega)
  refine vc_call add64 (ds := [U 0, U p03, U c12]) (r := Value.tuple #[U (((0 + p03 + c12) % 18446744073709551616)), U (((0 + p03 + c12) / 18446744073709551616))]) (fun _ => rfl) rfl (⟨_, _, _, by omega, rfl, rfl⟩) ?_
  generalize (0 + p03 + c12) % 18446744073709551616 = s15 at f15 ⊢
  generalize (0 + p03 + c12) / 18446744073709551616 = c15 at f15 ⊢
  refine vc_tupc (fun _ => rfl) rfl rfl ?_
  refine vc_tupc (fun _ => rfl) rfl rfl ?_
  refine vc_isOne rfl ?_
  refine vc_add64 (x := o0) (y := c15) (fun _ => rfl) (fun _ => rfl) rfl fun v18 h18 => ?_
  have g0 := row_sum f6.1 f9.1 f12.1 f15.1 ep0
  have w0 := row_top (words_lt (by omega) (by omega) (by omega) (by omega)) g0 pm0 pl0
  rw [Nat.mod_eq_of_lt w0] at h18
  have k0_0 := f6.2.1
  have k0_1 := f9.2.1
  have k0_2 := f12.2.1
  have k0_3 := f15.2.1
  have z0 : v18 < 18446744073709551616 := by rw [h18]; exact w0
  clear f6 f9 f12 f15 ep0 lt0 pl0 w0
  refine vc_isOne rfl ?_
  refine vc_index (m := 4) (e := 24) (q := .u64) (i := 1) (r := U y1) (by kernel_rfl) (by kernel_rfl) (by kernel_rfl) (by kernel_rfl) (fun _ => rfl) (fun _ => rfl) (by decide) rfl rfl ?_
  refine vc_isAgg rfl rfl rfl ?_
  have lt1 : x * y1 % 115792089237316195423570985008687907853269984665640564039457584007913129639936 < 115792089237316195423570985008687907853269984665640564039457584007913129639936 := Nat.mod_lt _ (by decide)
  obtain ⟨p10, p11, p12, p13, pa1, pb1, pc1, pd1, ep1, np1⟩ := nums_split lt1
  have pm1 := Nat.mod_add_div (x * y1) 115792089237316195423570985008687907853269984665640564039457584007913129639936
  have pl1 : x * y1 ≤ 115792089237316195423570985008687907853269984665640564039457584007913129639935 * 18446744073709551615 := Nat.mul_le_mul (by omega) (by omega)
  refine vc_call c_times (ds := [nums [x], U y1]) (r := .tuple #[.agg #[U p10, U p11, U p12, U p13], U (x * y1 / 115792089237316195423570985008687907853269984665640564039457584007913129639936)]) (fun _ => rfl) rfl (⟨x, y1, hx, by omega, rfl, by rw [np1]⟩) ?_
  generalize x * y1 / 115792089237316195423570985008687907853269984665640564039457584007913129639936 = o1 at pm1 ⊢
  generalize x * y1 % 115792089237316195423570985008687907853269984665640564039457584007913129639936 = m1 at pm1 ep1 lt1
  refine vc_tupc (fun _ => rfl) rfl rfl ?_
  refine vc_tupc (fun _ => rfl) rfl rfl ?_
  refine vc_isAgg rfl rfl rfl ?_
  have f23 := add_fact s9 p10 0 (by omega) (by omega) (by omega)
  refine vc_call add64 (ds := [U s9, U p10, U 0]) (r := Value.tuple #[U (((s9 + p10 + 0) % 18446744073709551616)), U (((s9 + p10 + 0) / 18446744073709551616))]) (fun _ => rfl) rfl (⟨_, _, _, by omega, rfl, rfl⟩) ?_
  generalize (s9 + p10 + 0) % 18446744073709551616 = s23 at f23 ⊢
  generalize (s9 + p10 + 0) / 18446744073709551616 = c23 at f23 ⊢
  refine vc_tupc (fun _ => rfl) rfl rfl ?_
  refine vc_tupc (fun _ => rfl) rfl rfl ?_
  refine vc_isOne rfl ?_
  have f26 := add_fact s12 p11 c23 (by omega) (by omega) (by omega)
  refine vc_call add64 (ds := [U s12, U p11, U c23]) (r := Value.tuple #[U (((s12 + p11 + c23) % 18446744073709551616)), U (((s12 + p11 + c23) / 18446744073709551616))]) (fun _ => rfl) rfl (⟨_, _, _, by omega, rfl, rfl⟩) ?_
  generalize (s12 + p11 + c23) % 18446744073709551616 = s26 at f26 ⊢
  generalize (s12 + p11 + c23) / 18446744073709551616 = c26 at f26 ⊢
  refine vc_tupc (fun _ => rfl) rfl rfl ?_
  refine vc_tupc (fun _ => rfl) rfl rfl ?_
  refine vc_isOne rfl ?_
  have f29 := add_fact s15 p12 c26 (by omega) (by omega) (by omega)
  refine vc_call add64 (ds := [U s15, U p12, U c26]) (r := Value.tuple #[U (((s15 + p12 + c26) % 18446744073709551616)), U (((s15 + p12 + c26) / 18446744073709551616))]) (fun _ => rfl) rfl (⟨_, _, _, by omega, rfl, rfl⟩) ?_
  generalize (s15 + p12 + c26) % 18446744073709551616 = s29 at f29 ⊢
  generalize (s15 + p12 + c26) / 18446744073709551616 = c29 at f29 ⊢
  refine vc_tupc (fun _ => rfl) rfl rfl ?_
  refine vc_tupc (fun _ => rfl) rfl rfl ?_
  refine vc_isOne rfl ?_
  have f32 := add_fact v18 p13 c29 (by omega) (by omega) (by omega)
  refine vc_call add64 (ds := [U v18, U p13, U c29]) (r := Value.tuple #[U (((v18 + p13 + c29) % 18446744073709551616)), U (((v18 + p13 + c29) / 18446744073709551616))]) (fun _ => rfl) rfl (⟨_, _, _, by omega, rfl, rfl⟩) ?_
  generalize (v18 + p13 + c29) % 18446744073709551616 = s32 at f32 ⊢
  generalize (v18 + p13 + c29) / 18446744073709551616 = c32 at f32 ⊢
  refine vc_tupc (fun _ => rfl) rfl rfl ?_
  refine vc_tupc (fun _ => rfl) rfl rfl ?_
  refine vc_isOne rfl ?_
  refine vc_add64 (x := o1) (y := c32) (fun _ => rfl) (fun _ => rfl) rfl fun v35 h35 => ?_
  have g1 := row_sum f23.1 f26.1 f29.1 f32.1 ep1
  have w1 := row_top (words_lt (by omega) (by omega) (by omega) (by omega)) g1 pm1 pl1
  rw [Nat.mod_eq_of_lt w1] at h35
  have k1_0 := f23.2.1
  have k1_1 := f26.2.1
  have k1_2 := f29.2.1
  have k1_3 := f32.2.1
  have z1 : v35 < 18446744073709551616 := by rw [h35]; exact w1
  clear f23 f26 f29 f32 ep1 lt1 pl1 w1
  refine vc_isOne rfl ?_
  refine vc_index (m := 4) (e := 24) (q := .u64) (i := 2) (r := U y2) (by kernel_rfl) (by kernel_rfl) (by kernel_rfl) (by kernel_rfl) (fun _ => rfl) (fun _ => rfl) (by decide) rfl rfl ?_
  refine vc_isAgg rfl rfl rfl ?_
  have lt2 : x * y2 % 115792089237316195423570985008687907853269984665640564039457584007913129639936 < 115792089237316195423570985008687907853269984665640564039457584007913129639936 := Nat.mod_lt _ (by decide)
  obtain ⟨p20, p21, p22, p23, pa2, pb2, pc2, pd2, ep2, np2⟩ := nums_split lt2
  have pm2 := Nat.mod_add_div (x * y2) 115792089237316195423570985008687907853269984665640564039457584007913129639936
  have pl2 : x * y2 ≤ 115792089237316195423570985008687907853269984665640564039457584007913129639935 * 18446744073709551615 := Nat.mul_le_mul (by omega) (by omega)
  refine vc_call c_times (ds := [nums [x], U y2]) (r := .tuple #[.agg #[U p20, U p21, U p22, U p23], U (x * y2 / 115792089237316195423570985008687907853269984665640564039457584007913129639936)]) (fun _ => rfl) rfl (⟨x, y2, hx, by omega, rfl, by rw [np2]⟩) ?_
  generalize x * y2 / 115792089237316195423570985008687907853269984665640564039457584007913129639936 = o2 at pm2 ⊢
  generalize x * y2 % 115792089237316195423570985008687907853269984665640564039457584007913129639936 = m2 at pm2 ep2 lt2
  refine vc_tupc (fun _ => rfl) rfl rfl ?_
  refine vc_tupc (fun _ => rfl) rfl rfl ?_
  refine vc_isAgg rfl rfl rfl ?_
  have f40 := add_fact s26 p20 0 (by omega) (by omega) (by omega)
  refine vc_call add64 (ds := [U s26, U p20, U 0]) (r := Value.tuple #[U (((s26 + p20 + 0) % 18446744073709551616)), U (((s26 + p20 + 0) / 18446744073709551616))]) (fun _ => rfl) rfl (⟨_, _, _, by omega, rfl, rfl⟩) ?_
  generalize (s26 + p20 + 0) % 18446744073709551616 = s40 at f40 ⊢
  generalize (s26 + p20 + 0) / 18446744073709551616 = c40 at f40 ⊢
  refine vc_tupc (fun _ => rfl) rfl rfl ?_
  refine vc_tupc (fun _ => rfl) rfl rfl ?_
  refine vc_isOne rfl ?_
  have f43 := add_fact s29 p21 c40 (by omega) (by omega) (by omega)
  refine vc_call add64 (ds := [U s29, U p21, U c40]) (r := Value.tuple #[U (((s29 + p21 + c40) % 18446744073709551616)), U (((s29 + p21 + c40) / 18446744073709551616))]) (fun _ => rfl) rfl (⟨_, _, _, by omega, rfl, rfl⟩) ?_
  generalize (s29 + p21 + c40) % 18446744073709551616 = s43 at f43 ⊢
  generalize (s29 + p21 + c40) / 18446744073709551616 = c43 at f43 ⊢
  refine vc_tupc (fun _ => rfl) rfl rfl ?_
  refine vc_tupc (fun _ => rfl) rfl rfl ?_
  refine vc_isOne rfl ?_
  have f46 := add_fact s32 p22 c43 (by omega) (by omega) (by omega)
  refine vc_call add64 (ds := [U s32, U p22, U c43]) (r := Value.tuple #[U (((s32 + p22 + c43) % 18446744073709551616)), U (((s32 + p22 + c43) / 18446744073709551616))]) (fun _ => rfl) rfl (⟨_, _, _, by omega, rfl, rfl⟩) ?_
  generalize (s32 + p22 + c43) % 18446744073709551616 = s46 at f46 ⊢
  generalize (s32 + p22 + c43) / 18446744073709551616 = c46 at f46 ⊢
  refine vc_tupc (fun _ => rfl) rfl rfl ?_
  refine vc_tupc (fun _ => rfl) rfl rfl ?_
  refine vc_isOne rfl ?_
  have f49 := add_fact v35 p23 c46 (by omega) (by omega) (by omega)
  refine vc_call add64 (ds := [U v35, U p23, U c46]) (r := Value.tuple #[U (((v35 + p23 + c46) % 18446744073709551616)), U (((v35 + p23 + c46) / 18446744073709551616))]) (fun _ => rfl) rfl (⟨_, _, _, by omega, rfl, rfl⟩) ?_
  generalize (v35 + p23 + c46) % 18446744073709551616 = s49 at f49 ⊢
  generalize (v35 + p23 + c46) / 18446744073709551616 = c49 at f49 ⊢
  refine vc_tupc (fun _ => rfl) rfl rfl ?_
  refine vc_tupc (fun _ => rfl) rfl rfl ?_
  refine vc_isOne rfl ?_
  refine vc_add64 (x := o2) (y := c49) (fun _ => rfl) (fun _ => rfl) rfl fun v52 h52 => ?_
  have g2 := row_sum f40.1 f43.1 f46.1 f49.1 ep2
  have w2 := row_top (words_lt (by omega) (by omega) (by omega) (by omega)) g2 pm2 pl2
  rw [Nat.mod_eq_of_lt w2] at h52
  have k2_0 := f40.2.1
  have k2_1 := f43.2.1
  have k2_2 := f46.2.1
  have k2_3 := f49.2.1
  have z2 : v52 < 18446744073709551616 := by rw [h52]; exact w2
  clear f40 f43 f46 f49 ep2 lt2 pl2 w2
  refine vc_isOne rfl ?_
  refine vc_index (m := 4) (e := 24) (q := .u64) (i := 3) (r := U y3) (by kernel_rfl) (by kernel_rfl) (by kernel_rfl) (by kernel_rfl) (fun _ => rfl) (fun _ => rfl) (by decide) rfl rfl ?_
  refine vc_isAgg rfl rfl rfl ?_
  have lt3 : x * y3 % 115792089237316195423570985008687907853269984665640564039457584007913129639936 < 115792089237316195423570985008687907853269984665640564039457584007913129639936 := Nat.mod_lt _ (by decide)
  obtain ⟨p30, p31, p32, p33, pa3, pb3, pc3, pd3, ep3, np3⟩ := nums_split lt3
  have pm3 := Nat.mod_add_div (x * y3) 115792089237316195423570985008687907853269984665640564039457584007913129639936
  have pl3 : x * y3 ≤ 115792089237316195423570985008687907853269984665640564039457584007913129639935 * 18446744073709551615 := Nat.mul_le_mul (by omega) (by omega)
  refine vc_call c_times (ds := [nums [x], U y3]) (r := .tuple #[.agg #[U p30, U p31, U p32, U p33], U (x * y3 / 115792089237316195423570985008687907853269984665640564039457584007913129639936)]) (fun _ => rfl) rfl (⟨x, y3, hx, by omega, rfl, by rw [np3]⟩) ?_
  generalize x * y3 / 115792089237316195423570985008687907853269984665640564039457584007913129639936 = o3 at pm3 ⊢
  generalize x * y3 % 115792089237316195423570985008687907853269984665640564039457584007913129639936 = m3 at pm3 ep3 lt3
  refine vc_tupc (fun _ => rfl) rfl rfl ?_
  refine vc_tupc (fun _ => rfl) rfl rfl ?_
  refine vc_isAgg rfl rfl rfl ?_
  have f57 := add_fact s43 p30 0 (by omega) (by omega) (by omega)
  refine vc_call add64 (ds := [U s43, U p30, U 0]) (r := Value.tuple #[U (((s43 + p30 + 0) % 18446744073709551616)), U (((s43 + p30 + 0) / 18446744073709551616))]) (fun _ => rfl) rfl (⟨_, _, _, by omega, rfl, rfl⟩) ?_
  generalize (s43 + p30 + 0) % 18446744073709551616 = s57 at f57 ⊢
  generalize (s43 + p30 + 0) / 18446744073709551616 = c57 at f57 ⊢
  refine vc_tupc (fun _ => rfl) rfl rfl ?_
  refine vc_tupc (fun _ => rfl) rfl rfl ?_
  refine vc_isOne rfl ?_
  have f60 := add_fact s46 p31 c57 (by omega) (by omega) (by omega)
  refine vc_call add64 (ds := [U s46, U p31, U c57]) (r := Value.tuple #[U (((s46 + p31 + c57) % 18446744073709551616)), U (((s46 + p31 + c57) / 18446744073709551616))]) (fun _ => rfl) rfl (⟨_, _, _, by omega, rfl, rfl⟩) ?_
  generalize (s46 + p31 + c57) % 18446744073709551616 = s60 at f60 ⊢
  generalize (s46 + p31 + c57) / 18446744073709551616 = c60 at f60 ⊢
  refine vc_tupc (fun _ => rfl) rfl rfl ?_
  refine vc_tupc (fun _ => rfl) rfl rfl ?_
  refine vc_isOne rfl ?_
  have f63 := add_fact s49 p32 c60 (by omega) (by omega) (by omega)
  refine vc_call add64 (ds := [U s49, U p32, U c60]) (r := Value.tuple #[U (((s49 + p32 + c60) % 18446744073709551616)), U (((s49 + p32 + c60) / 18446744073709551616))]) (fun _ => rfl) rfl (⟨_, _, _, by omega, rfl, rfl⟩) ?_
  generalize (s49 + p32 + c60) % 18446744073709551616 = s63 at f63 ⊢
  generalize (s49 + p32 + c60) / 18446744073709551616 = c63 at f63 ⊢
  refine vc_tupc (fun _ => rfl) rfl rfl ?_
  refine vc_tupc (fun _ => rfl) rfl rfl ?_
  refine vc_isOne rfl ?_
  have f66 := add_fact v52 p33 c63 (by omega) (by omega) (by omega)
  refine vc_call add64 (ds := [U v52, U p33, U c63]) (r := Value.tuple #[U (((v52 + p33 + c63) % 18446744073709551616)), U (((v52 + p33 + c63) / 18446744073709551616))]) (fun _ => rfl) rfl (⟨_, _, _, by omega, rfl, rfl⟩) ?_
  generalize (v52 + p33 + c63) % 18446744073709551616 = s66 at f66 ⊢
  generalize (v52 + p33 + c63) / 18446744073709551616 = c66 at f66 ⊢
  refine vc_tupc (fun _ => rfl) rfl rfl ?_
  refine vc_tupc (fun _ => rfl) rfl rfl ?_
  refine vc_isOne rfl ?_
  refine vc_add64 (x := o3) (y := c66) (fun _ => rfl) (fun _ => rfl) rfl fun v69 h69 => ?_
  have g3 := row_sum f57.1 f60.1 f63.1 f66.1 ep3
  have w3 := row_top (words_lt (by omega) (by omega) (by omega) (by omega)) g3 pm3 pl3
  rw [Nat.mod_eq_of_lt w3] at h69
  have k3_0 := f57.2.1
  have k3_1 := f60.2.1
  have k3_2 := f63.2.1
  have k3_3 := f66.2.1
  have z3 : v69 < 18446744073709551616 := by rw [h69]; exact w3
  clear f57 f60 f63 f66 ep3 lt3 pl3 w3
  refine vc_isOne rfl ?_
  refine vc_nil ?_
  refine JF.ret (by kernel_rfl) ?_
  refine hE.fin3 70 [U v69, U c66, U s66, Value.tuple #[U s66, U c66], U c63, U s63, Value.tuple #[U s63, U c63], U c60, U s60, Value.tuple #[U s60, U c60], U c57, U s57, Value.tuple #[U s57, U c57], U o3, Value.agg #[U p30, U p31, U p32, U p33], Value.tuple #[Value.agg #[U p30, U p31, U p32, U p33], U o3], U y3, U v52, U c49, U s49, Value.tuple #[U s49, U c49], U c46, U s46, Value.tuple #[U s46, U c46], U c43, U s43, Value.tuple #[U s43, U c43], U c40, U s40, Value.tuple #[U s40, U c40], U o2, Value.agg #[U p20, U p21, U p22, U p23], Value.tuple #[Value.agg #[U p20, U p21, U p22, U p23], U o2], U y2, U v35, U c32, U s32, Value.tuple #[U s32, U c32], U c29, U s29, Value.tuple #[U s29, U c29], U c26, U s26, Value.tuple #[U s26, U c26], U c23, U s23, Value.tuple #[U s23, U c23], U o1, Value.agg #[U p10, U p11, U p12, U p13], Value.tuple #[Value.agg #[U p10, U p11, U p12, U p13], U o1], U y1, U v18, U c15, U s15, Value.tuple #[U s15, U c15], U c12, U s12, Value.tuple #[U s12, U c12], U c9, U s9, Value.tuple #[U s9, U c9], U c6, U s6, Value.tuple #[U s6, U c6], U o0, Value.agg #[U p00, U p01, U p02, U p03], Value.tuple #[Value.agg #[U p00, U p01, U p02, U p03], U o0], U y0, Value.agg #[U y0, U y1, U y2, U y3], nums [x]] rfl rfl (cm := []) (ds := [.v (.at (.agg [.var 7, .var 24, .var 41, .var 58, .var 61, .var 64, .var 67, .var 69]))]) (by kernel_rfl) rfl (.inr rfl) ?_
  refine vc_nil ?_
  show Value.agg #[U s6, U s23, U s40, U s57, U s60, U s63, U s66, U v69] = _
  have hm : x * y = x * y0 + 18446744073709551616 * (x * y1 + 18446744073709551616 * (x * y2 + 18446744073709551616 * (x * y3))) := by
    rw [ey]; simp only [Nat.mul_add, Nat.mul_left_comm]
  rw [← pm0, ← pm1, ← pm2, ← pm3] at hm
  have hp := rows_all hm g0 h18 g1 h35 g2 h52 g3
  rw [← h69] at hp
  have hS := words_lt k0_0 k1_0 k2_0 k3_0
  clear g0 g1 g2 g3 hm pm0 pm1 pm2 pm3 ey ny hl hE
  generalize x * y = p at *
  have e1 : p % 115792089237316195423570985008687907853269984665640564039457584007913129639936 = s6 + 18446744073709551616 * (s23 + 18446744073709551616 * (s40 + 18446744073709551616 * s57)) := by omega
  have e2 : p / 115792089237316195423570985008687907853269984665640564039457584007913129639936 = s60 + 18446744073709551616 * (s63 + 18446744073709551616 * (s66 + 18446744073709551616 * v69)) := by omega
  rw [nums_words2 k0_0 k1_0 k2_0 k3_0 e1 k3_1 k3_2 k3_3 z3 e2]

end Go.Proofs.Ytpeafegfjhljmaa

/-
  Functions of the program: what each computes.
-/
open Go Go.Sx Go.Proofs
open Ed (F P inv pw Pt)
namespace Go.Proofs.Ytpeafegfjhljmaa
set_option maxRecDepth 100000
set_option maxHeartbeats 4000000
def fm (low high : Nat) : Nat := if high = 0 then 0 else if high ≤ 1 ∧ low < 2000 then 1 else if high ≤ 38 then 2 else 3
theorem fm_lt {low high h p o s c : Nat} (hl : low < 115792089237316195423570985008687907853269984665640564039457584007913129639936) (hh : high < 115792089237316195423570985008687907853269984665640564039457584007913129639936) (h0 : high ≠ 0) (hp : p + 115792089237316195423570985008687907853269984665640564039457584007913129639936 * o = high * 38) (hs : s + 115792089237316195423570985008687907853269984665640564039457584007913129639936 * c = low + p) (hsl : s < 115792089237316195423570985008687907853269984665640564039457584007913129639936) (hr : h = o + c) : fm s h < fm low high := by
  unfold fm
  rw [if_neg h0]
  by_cases h1 : high ≤ 1 ∧ low < 2000
  · rw [if_pos h1]
    have : h = 0 := by omega
    rw [if_pos this]; omega
  · rw [if_neg h1]
    by_cases h2 : high ≤ 38
    · rw [if_pos h2]
      by_cases h3 : h = 0
      · rw [if_pos h3]; omega
      · rw [if_neg h3, if_pos (by omega)]; omega
    · rw [if_neg h2]
      split
      · omega
      · split
        · omega
        · rw [if_pos (by omega)]; omega
theorem ofN_fold {low high p o s c h : Nat} (hp : p + 115792089237316195423570985008687907853269984665640564039457584007913129639936 * o = high * 38) (hs : s + 115792089237316195423570985008687907853269984665640564039457584007913129639936 * c = low + p) (hr : h = o + c) : ofN (s + 115792089237316195423570985008687907853269984665640564039457584007913129639936 * h) = ofN (low + 115792089237316195423570985008687907853269984665640564039457584007913129639936 * high) := by
  have e1 : ofN s + 38 * ofN c = ofN low + ofN p := by rw [← ofN_W, ← ofN_mul, ← ofN_add, ← ofN_add, hs]
  have e2 : ofN p + 38 * ofN o = ofN high * 38 := by
    have h38 : ofN 38 = 38 := by decide
    rw [← ofN_W, ← ofN_mul, ← ofN_add, hp, ofN_mul, h38, ofN_W]
  subst hr
  rw [ofN_add, ofN_mul, ofN_add, ofN_add low, ofN_mul, ofN_W]
  grind
noncomputable def E_folded_0 : Option Ran := ex1 (cfg 36) (fun _ => none) 0 4000 30000 1 (inSt (v1v)) [.c (seqA (bodyOf Try.f77))] .nor
def T_folded0 : St := ⟨[(2, .at (.one (.ptr 30004 0))), (1, .at (.one (.ptr 30000 0)))], [(30004, some ⟨.lst [.lit (.int .u64 0), .lit (.int .u64 0), .lit (.int .u64 0), .lit (.int .u64 0)], 0, none⟩), (30000, some ⟨.lst [.part 0 0 8, .part 0 1 8, .part 0 2 8, .part 0 3 8, .part 0 4 8, .part 0 5 8, .part 0 6 8, .part 0 7 8], 0, none⟩)], [(30004, true)]⟩
noncomputable def E_folded_1 : Option Ran := ex1 (cfg 36) (fun _ => none) 0 4000 50000 1 (T_folded0) [.c (seqB (bodyOf Try.f77))] .nor
def T_folded : St := ⟨[(4, .at (.one (.ptr 50028 0))), (3, .at (.one (.ptr 50024 0))), (2, .at (.one (.ptr 30004 0)))], [(50028, some ⟨.lst [.part 2 0 4, .part 2 1 4, .part 2 2 4, .part 2 3 4], 0, none⟩), (50024, some ⟨.lst [.part 1 0 4, .part 1 1 4, .part 1 2 4, .part 1 3 4], 0, none⟩), (30004, some ⟨.lst [.lit (.int .u64 0), .lit (.int .u64 0), .lit (.int .u64 0), .lit (.int .u64 0)], 0, none⟩)], [(50028, true), (50024, true), (30004, true)]⟩
noncomputable def E_folded_2 : Option Ran := ex1 (cfg 36) (fun n => if n = 4 then some false else none) 0 4000 70000 3 (T_folded) [.c (codeF E_folded_1)] .nor
noncomputable def E_folded_3 : Option Ran := ex1 (cfg 36) (fun _ => none) 0 4000 90000 5 (stOf E_folded_2) (kontF E_folded_1) (.exit 0)
noncomputable def E_folded_4 : Option Ran := ex1 (cfg 36) (fun n => if n = 4 then some true else none) 0 4000 110000 3 (T_folded) [.c (codeF E_folded_1)] .nor
theorem c_folded : Ctr Try.prog glb0 77 v1v Φfolded := by
  refine ctr (C := cfg 36) mixed ti_ok Try.func77 (by kernel_rfl) ?_
  rintro ds r X Q hl ⟨x, y, hx, hy, rfl, rfl⟩ hE
  refine Jd.cutc (by kernel_rfl) ?_
  refine Jd.go2 (E := E_folded_0) 1 [nums [x, y]] rfl rfl rfl [.isAgg 0 8] (by kernel_rfl) ?_
  refine vc_isAgg rfl rfl rfl ?_
  refine vc_nil ?_
  refine JF.nor (by kernel_rfl) ?_
  refine Jd.back ?_
  refine Jd.weak (T := T_folded0) (m := 0) (τ := []) (π := []) (by kernel_rfl) (by kernel_rfl) ?_
  refine Jd.go2 (E := E_folded_1) 1 [nums [x, y]] rfl rfl rfl [] (by kernel_rfl) ?_
  refine vc_nil ?_
  refine JF.loop (by kernel_rfl) ?_
  refine Jd.loop (T := T_folded) (m := 2) (Inv := fun n xs => ∃ low high, xs = [nums [low], nums [high]] ∧ low < 115792089237316195423570985008687907853269984665640564039457584007913129639936 ∧ high < 115792089237316195423570985008687907853269984665640564039457584007913129639936 ∧ ofN (low + 115792089237316195423570985008687907853269984665640564039457584007913129639936 * high) = ofN (x + 115792089237316195423570985008687907853269984665640564039457584007913129639936 * y) ∧ n = fm low high) (n0 := fm x y) (τ := [.at (.agg [.part 0 0 8, .part 0 1 8, .part 0 2 8, .part 0 3 8]), .at (.agg [.part 0 4 8, .part 0 5 8, .part 0 6 8, .part 0 7 8])]) (π := []) (by kernel_rfl) (by kernel_rfl) ?_ fun n xs hlen hI => ?_
  · exact ⟨x, y, rfl, hx, hy, rfl, rfl⟩
  obtain ⟨u, v, rfl, hu, hv, huv, rfl⟩ := hI
  by_cases hz : v = 0
  · refine Jd.go2 (E := E_folded_2) 3 [nums [v], nums [u], nums [x, y]] rfl rfl rfl [.isAgg 2 4, .call 25 ⟨none, [.one .v], .two (.one .v)⟩ [.one (.a (.var 2))] 3, .un .not (.at (.one (.var 3))) 4, .isBool 4 false] (by kernel_rfl) ?_
    refine vc_isAgg rfl rfl rfl ?_
    refine vc_call c_zero (ds := [nums [v]]) (r := Bo (decide (v = 0))) (fun _ => rfl) rfl (⟨_, hv, rfl, rfl⟩) ?_
    refine vc_not (fun _ => rfl) rfl ?_
    refine vc_isBool (by simp [lr, Bo, hz]) ?_
    refine vc_nil ?_
    refine JF.exit (n := 0) (by kernel_rfl) ?_
    refine Jd.out (by simp) ?_
    refine Jd.go2 (E := E_folded_3) 5 [Bo (!(decide (v = 0))), Bo (decide (v = 0)), nums [v], nums [u], nums [x, y]] rfl rfl rfl [.isAgg 1 4, .call 53 ⟨none, [.one .v], .two (.one .v)⟩ [.one (.a (.var 1))] 5, .isAgg 5 4] (by kernel_rfl) ?_
    refine vc_isAgg rfl rfl rfl ?_
    refine vc_call c_small (ds := [nums [u]]) (r := fn [ofN u]) (fun _ => rfl) rfl (⟨_, hu, rfl, rfl⟩) ?_
    refine vc_isAgg rfl rfl rfl ?_
    refine vc_nil ?_
    refine JF.ret (by kernel_rfl) ?_
    refine hE.fin3 6 [fn [ofN u], Bo (!(decide (v = 0))), Bo (decide (v = 0)), nums [v], nums [u], nums [x, y]] rfl rfl (cm := [.isAgg 5 4]) (ds := [.v (.at (.one (.var 5)))]) (by kernel_rfl) rfl (.inr rfl) ?_
    refine vc_isAgg rfl rfl rfl ?_
    refine vc_nil ?_
    show fn [ofN u] = _
    rw [← huv, hz, Nat.mul_zero, Nat.add_zero]
  · refine Jd.go2 (E := E_folded_4) 3 [nums [v], nums [u], nums [x, y]] rfl rfl rfl [.isAgg 2 4, .call 25 ⟨none, [.one .v], .two (.one .v)⟩ [.one (.a (.var 2))] 3, .un .not (.at (.one (.var 3))) 4, .isBool 4 true, .isAgg 2 4, .call 85 ⟨none, [.one .v, .one .v], .tup [.one .v, .one .v]⟩ [.one (.a (.var 2)), .one (.a (.lit (.int .u64 38)))] 5, .tupc 5 0 6, .tupc 5 1 7, .isAgg 6 4, .isAgg 1 4, .isAgg 6 4, .call 72 ⟨none, [.one .v, .one .v], .tup [.one .v, .one .v]⟩ [.one (.a (.var 1)), .one (.a (.var 6))] 8, .tupc 8 0 9, .tupc 8 1 10, .isAgg 9 4, .isAgg 9 4, .bin .add 24 (.at (.one (.var 7))) (.at (.one (.var 10))) 11, .isOne (.var 11), .isAgg 9 4] (by kernel_rfl) ?_
    refine vc_isAgg rfl rfl rfl ?_
    refine vc_call c_zero (ds := [nums [v]]) (r := Bo (decide (v = 0))) (fun _ => rfl) rfl (⟨_, hv, rfl, rfl⟩) ?_
    refine vc_not (fun _ => rfl) rfl ?_
    refine vc_isBool (by simp [lr, Bo, hz]) ?_
    refine vc_isAgg rfl rfl rfl ?_
    refine vc_call c_times (ds := [nums [v], U 38]) (r := Value.tuple #[nums [v * 38 % 115792089237316195423570985008687907853269984665640564039457584007913129639936], U ((v * 38 / 115792089237316195423570985008687907853269984665640564039457584007913129639936))]) (fun _ => rfl) rfl (⟨_, _, hv, (by decide), rfl, rfl⟩) ?_
    refine vc_tupc (fun _ => rfl) rfl rfl ?_
    refine vc_tupc (fun _ => rfl) rfl rfl ?_
    refine vc_isAgg rfl rfl rfl ?_
    refine vc_isAgg rfl rfl rfl ?_
    refine vc_isAgg rfl rfl rfl ?_
    refine vc_call c_plus (ds := [nums [u], nums [v * 38 % 115792089237316195423570985008687907853269984665640564039457584007913129639936]]) (r := Value.tuple #[nums [(u + (v * 38 % 115792089237316195423570985008687907853269984665640564039457584007913129639936)) % 115792089237316195423570985008687907853269984665640564039457584007913129639936], U (((u + (v * 38 % 115792089237316195423570985008687907853269984665640564039457584007913129639936)) / 115792089237316195423570985008687907853269984665640564039457584007913129639936))]) (fun _ => rfl) rfl (⟨_, _, hu, (Nat.mod_lt _ (by decide)), rfl, rfl⟩) ?_
    refine vc_tupc (fun _ => rfl) rfl rfl ?_
    refine vc_tupc (fun _ => rfl) rfl rfl ?_
    refine vc_isAgg rfl rfl rfl ?_
    refine vc_isAgg rfl rfl rfl ?_
    refine vc_add64 (x := ((v * 38 / 115792089237316195423570985008687907853269984665640564039457584007913129639936))) (y := (((u + (v * 38 % 115792089237316195423570985008687907853269984665640564039457584007913129639936)) / 115792089237316195423570985008687907853269984665640564039457584007913129639936))) (fun _ => rfl) (fun _ => rfl) rfl fun w hw => ?_
    rw [Nat.mod_eq_of_lt (by omega)] at hw
    refine vc_isOne rfl ?_
    refine vc_isAgg rfl rfl rfl ?_
    refine vc_nil ?_
    refine JF.nor (by kernel_rfl) ?_
    exact Jd.next (m := 2) (τ := [.at (.one (.var 9)), .at (.agg [.var 11, .lit (.int .u64 0), .lit (.int .u64 0), .lit (.int .u64 0)])]) (π := []) (fm ((u + v * 38 % 115792089237316195423570985008687907853269984665640564039457584007913129639936) % 115792089237316195423570985008687907853269984665640564039457584007913129639936) w) (by kernel_rfl) (by kernel_rfl) (by kernel_rfl) (fm_lt (p := v * 38 % 115792089237316195423570985008687907853269984665640564039457584007913129639936) (o := v * 38 / 115792089237316195423570985008687907853269984665640564039457584007913129639936) (c := (u + v * 38 % 115792089237316195423570985008687907853269984665640564039457584007913129639936) / 115792089237316195423570985008687907853269984665640564039457584007913129639936) hu hv hz (by omega) (by omega) (by omega) hw) (⟨(u + v * 38 % 115792089237316195423570985008687907853269984665640564039457584007913129639936) % 115792089237316195423570985008687907853269984665640564039457584007913129639936, w, by rw [nums_words (n := w) (a := w) (b := 0) (c := 0) (d := 0) (by omega) (by decide) (by decide) (by decide) (by omega)]; rfl, by omega, by omega, by rw [← huv]; exact ofN_fold (p := v * 38 % 115792089237316195423570985008687907853269984665640564039457584007913129639936) (o := v * 38 / 115792089237316195423570985008687907853269984665640564039457584007913129639936) (c := (u + v * 38 % 115792089237316195423570985008687907853269984665640564039457584007913129639936) / 115792089237316195423570985008687907853269984665640564039457584007913129639936) (by omega) (by omega) hw, rfl⟩)

end Go.Proofs.Ytpeafegfjhljmaa

/-
  Functions of the program: what each computes.
-/
open Go Go.Sx Go.Proofs
open Ed (F P inv pw Pt)
namespace Go.Proofs.Ytpeafegfjhljmaa
set_option maxRecDepth 100000
set_option maxHeartbeats 4000000
theorem c_addM : Ctr Try.prog glb0 56 v2v (fun ds r => ∃ (x : F) (y : Nat), y < 115792089237316195423570985008687907853269984665640564039457584007913129639936 ∧ ds = [fn [x], fn [ofN y]] ∧ r = fn [x + ofN y]) := c_add.imp fun _ _ ⟨x, y, _, h1, h2⟩ => ⟨x, ofN y, h1, h2⟩
theorem c_SubF : Ctr Try.prog glb0 21 v2v ΦSubF := c_Sub.imp fun _ _ ⟨x, y, h1, h2⟩ => ⟨x.val, y.val, F_lt x, F_lt y, h1, by rw [h2, ofN_val, ofN_val]⟩
theorem c_smallF : Ctr Try.prog glb0 53 v1v (fun ds r => ∃ x : F, ds = [fn [x]] ∧ r = fn [x]) := c_small.imp fun _ _ ⟨x, h1, h2⟩ => ⟨x.val, F_lt x, h1, by rw [h2, ofN_val]⟩
noncomputable def E_mul_0 : Option Ran := ex1 (cfg 9) (fun _ => none) 0 4000 30000 2 (inSt (v2v)) [.c (bodyOf Try.f55)] .nor
theorem c_mul : Ctr Try.prog glb0 55 v2v Φmul := by
  refine ctr (C := cfg 9) mixed ti_ok Try.func55 (by kernel_rfl) ?_
  rintro ds r X Q hl ⟨x, y, hx, hy, rfl, rfl⟩ hE
  refine Jd.go2 (E := E_mul_0) 2 [nums [y], nums [x]] rfl rfl rfl [.isAgg 0 4, .isAgg 1 4, .isAgg 0 4, .isAgg 1 4, .call 71 ⟨none, [.one .v, .one .v], .two (.one .v)⟩ [.one (.a (.var 0)), .one (.a (.var 1))] 2, .call 77 ⟨none, [.one .v], .two (.one .v)⟩ [.one (.a (.var 2))] 3, .isAgg 3 4] (by kernel_rfl) ?_
  refine vc_isAgg rfl rfl rfl ?_
  refine vc_isAgg rfl rfl rfl ?_
  refine vc_isAgg rfl rfl rfl ?_
  refine vc_isAgg rfl rfl rfl ?_
  refine vc_call c_product (ds := [nums [x], nums [y]]) (r := nums [x * y % 115792089237316195423570985008687907853269984665640564039457584007913129639936, x * y / 115792089237316195423570985008687907853269984665640564039457584007913129639936]) (fun _ => rfl) rfl (⟨_, _, hx, hy, rfl, rfl⟩) ?_
  refine vc_call c_folded (ds := [nums [x * y % 115792089237316195423570985008687907853269984665640564039457584007913129639936, x * y / 115792089237316195423570985008687907853269984665640564039457584007913129639936]]) (r := fn [ofN ((x * y % 115792089237316195423570985008687907853269984665640564039457584007913129639936) + 115792089237316195423570985008687907853269984665640564039457584007913129639936 * (x * y / 115792089237316195423570985008687907853269984665640564039457584007913129639936))]) (fun _ => rfl) rfl (⟨_, _, (Nat.mod_lt _ (by decide)), (Nat.div_lt_of_lt_mul (Nat.lt_of_lt_of_le (Nat.mul_lt_mul_of_lt_of_lt hx hy) (by decide))), rfl, rfl⟩) ?_
  refine vc_isAgg rfl rfl rfl ?_
  refine vc_nil ?_
  refine JF.ret (by kernel_rfl) ?_
  refine hE.fin3 4 [fn [ofN ((x * y % 115792089237316195423570985008687907853269984665640564039457584007913129639936) + 115792089237316195423570985008687907853269984665640564039457584007913129639936 * (x * y / 115792089237316195423570985008687907853269984665640564039457584007913129639936))], nums [x * y % 115792089237316195423570985008687907853269984665640564039457584007913129639936, x * y / 115792089237316195423570985008687907853269984665640564039457584007913129639936], nums [y], nums [x]] rfl rfl (cm := [.isAgg 3 4]) (ds := [.v (.at (.one (.var 3)))]) (by kernel_rfl) rfl (.inr rfl) ?_
  refine vc_isAgg rfl rfl rfl ?_
  refine vc_nil ?_
  show fn [ofN ((x * y % 115792089237316195423570985008687907853269984665640564039457584007913129639936) + 115792089237316195423570985008687907853269984665640564039457584007913129639936 * (x * y / 115792089237316195423570985008687907853269984665640564039457584007913129639936))] = _
  rw [Nat.mod_add_div, ofN_mul]

theorem c_mulF : Ctr Try.prog glb0 55 v2v ΦmulF := c_mul.imp fun _ _ ⟨x, y, h1, h2⟩ => ⟨x.val, y.val, F_lt x, F_lt y, h1, by rw [h2, ofN_val, ofN_val]⟩
theorem c_mulM : Ctr Try.prog glb0 55 v2v (fun ds r => ∃ (x : F) (y : Nat), y < 115792089237316195423570985008687907853269984665640564039457584007913129639936 ∧ ds = [fn [x], nums [y]] ∧ r = fn [x * ofN y]) := c_mul.imp fun _ _ ⟨x, y, hy, h1, h2⟩ => ⟨x.val, y, F_lt x, hy, h1, by rw [h2, ofN_val]⟩
noncomputable def E_Mul_0 : Option Ran := ex1 (cfg 18) (fun _ => none) 0 4000 30000 1 (inSt ((s1v 4))) [.c (bodyOf Try.f20)] .nor
def T_Mul : St := ⟨[(9, .at (.one (.var 2))), (8, .at (.one (.var 1))), (7, .at (.one (.sl 10000))), (3, .at (.one (.ptr 30008 0))), (2, .at (.one (.ptr 30000 0)))], [(30008, some ⟨.lst [.part 3 0 4, .part 3 1 4, .part 3 2 4, .part 3 3 4], 0, none⟩), (30000, some ⟨.lst [.lit (.int .u64 0), .lit (.int .u64 0), .lit (.int .u64 0), .lit (.int .u64 0)], 0, none⟩), (10000, some ⟨.all 0, 4, none⟩)], [(30008, true), (30000, true)]⟩
noncomputable def E_Mul_1 : Option Ran := ex1 (cfg 18) (fun n => if n = 4 then some true else none) 0 4000 50000 4 (T_Mul) [.c (codeF E_Mul_0)] .nor
noncomputable def E_Mul_2 : Option Ran := ex1 (cfg 18) (fun n => if n = 4 then some false else none) 0 4000 70000 4 (T_Mul) [.c (codeF E_Mul_0)] .nor
noncomputable def E_Mul_3 : Option Ran := ex1 (cfg 18) (fun _ => none) 0 4000 90000 5 (stOf E_Mul_2) (kontF E_Mul_0) (.exit 0)
theorem c_Mul : Ctr Try.prog glb0 20 (s1v 4) ΦMul := by
  refine ctr (C := cfg 18) mixed ti_ok Try.func20 (by kernel_rfl) ?_
  rintro ds r X Q hl ⟨l, hb, hn, rfl, rfl⟩ hE
  refine Jd.go2 (E := E_Mul_0) 1 [nums l] rfl rfl rfl [.len 0 4 1] (by kernel_rfl) ?_
  refine vc_len (k := l.length) (fun _ => rfl) (nums_size l) rfl ?_
  refine vc_nil ?_
  refine JF.loop (by kernel_rfl) ?_
  refine Jd.loop (T := T_Mul) (m := 2) (Inv := fun n xs => ∃ i, i ≤ l.length ∧ xs = [I i, fn [prodF ((l.take i).map ofN)]] ∧ n = l.length - i) (n0 := l.length) (τ := [.at (.one (.lit (.int .i64 0))), .at (.agg [.lit (.int .u64 1), .lit (.int .u64 0), .lit (.int .u64 0), .lit (.int .u64 0)])]) (π := []) (by kernel_rfl) (by kernel_rfl) ?_ fun n xs hlen hI => ?_
  · exact ⟨0, Nat.zero_le _, by kernel_rfl, rfl⟩
  obtain ⟨i, hi, rfl, rfl⟩ := hI
  by_cases hlt : i < l.length
  · refine Jd.go2 (E := E_Mul_1) 4 [fn [prodF ((l.take i).map ofN)], I i, I l.length, nums l] rfl rfl rfl [.bin .lss 3 (.at (.one (.var 2))) (.at (.one (.var 1))) 4, .isBool 4 true, .bndl 2 0 4, .getxa (.all 0) 2 4 4 5, .isAgg 5 4, .isAgg 3 4, .isAgg 5 4, .call 55 ⟨none, [.one .v, .one .v], .two (.one .v)⟩ [.one (.a (.var 3)), .one (.a (.var 5))] 6, .isAgg 6 4, .bin .add 3 (.at (.one (.var 2))) (.at (.one (.lit (.int .i64 1)))) 7] (by kernel_rfl) ?_
    refine vc_cmp (x := i) (y := l.length) (t := decide (i < l.length)) (fun _ => rfl) (fun _ => rfl) rfl rfl ?_
    refine vc_isBool (by simp [lr, Bo, hlt]) ?_
    refine vc_bndl (i := i) rfl rfl (by rw [nums_size]; omega) ?_
    refine vc_getxaN (xs := l) hlt (fun _ => rfl) (fun _ => rfl) rfl ?_
    refine vc_isAgg rfl rfl rfl ?_
    refine vc_isAgg rfl rfl rfl ?_
    refine vc_isAgg rfl rfl rfl ?_
    refine vc_call c_mulM (ds := [fn [prodF ((l.take i).map ofN)], nums [l[i]]]) (r := fn [(prodF ((l.take i).map ofN)) * ofN (l[i])]) (fun _ => rfl) rfl (⟨_, _, (hb _ (List.getElem_mem _)), rfl, rfl⟩) ?_
    refine vc_isAgg rfl rfl rfl ?_
    refine vc_addI (x := i) (y := 1) (fun _ => rfl) (fun _ => rfl) (by omega) rfl ?_
    refine vc_nil ?_
    refine JF.nor (by kernel_rfl) ?_
    exact Jd.next (m := 2) (τ := [.at (.one (.var 7)), .at (.one (.var 6))]) (π := []) (l.length - (i + 1)) (by kernel_rfl) (by kernel_rfl) (by kernel_rfl) (by omega) (⟨i + 1, hlt, by rw [take_succ_map l i hlt, prodF_snoc]; rfl, rfl⟩)
  · refine Jd.go2 (E := E_Mul_2) 4 [fn [prodF ((l.take i).map ofN)], I i, I l.length, nums l] rfl rfl rfl [.bin .lss 3 (.at (.one (.var 2))) (.at (.one (.var 1))) 4, .isBool 4 false] (by kernel_rfl) ?_
    refine vc_cmp (x := i) (y := l.length) (t := decide (i < l.length)) (fun _ => rfl) (fun _ => rfl) rfl rfl ?_
    refine vc_isBool (by simp [lr, Bo, hlt]) ?_
    refine vc_nil ?_
    refine JF.exit (n := 0) (by kernel_rfl) ?_
    refine Jd.out (by simp) ?_
    refine Jd.go2 (E := E_Mul_3) 5 [Bo (decide (i < l.length)), fn [prodF ((l.take i).map ofN)], I i, I l.length, nums l] rfl rfl rfl [.isAgg 3 4, .isAgg 3 4] (by kernel_rfl) ?_
    refine vc_isAgg rfl rfl rfl ?_
    refine vc_isAgg rfl rfl rfl ?_
    refine vc_nil ?_
    refine JF.ret (by kernel_rfl) ?_
    refine hE.fin3 5 [Bo (decide (i < l.length)), fn [prodF ((l.take i).map ofN)], I i, I l.length, nums l] rfl rfl (cm := [.isAgg 3 4]) (ds := [.v (.at (.one (.var 3)))]) (by kernel_rfl) rfl (.inr rfl) ?_
    refine vc_isAgg rfl rfl rfl ?_
    refine vc_nil ?_
    show fn [prodF ((l.take i).map ofN)] = _
    rw [List.take_of_length_le (by omega)]

theorem c_MulF : Ctr Try.prog glb0 20 (s1v 4) ΦMulF := c_Mul.imp fun _ _ ⟨l, hn, h1, h2⟩ => ⟨l.map Fin.val, fun x hx => by obtain ⟨y, _, rfl⟩ := List.mem_map.1 hx; exact F_lt y, by simpa using hn, h1, by rw [h2, List.map_map, show (ofN ∘ Fin.val : F → F) = id from funext ofN_val, List.map_id]⟩
noncomputable def E_Add_0 : Option Ran := ex1 (cfg 18) (fun _ => none) 0 4000 30000 1 (inSt ((s1v 4))) [.c (bodyOf Try.f23)] .nor
def T_Add : St := ⟨[(8, .at (.one (.var 2))), (7, .at (.one (.var 1))), (6, .at (.one (.sl 10000))), (3, .at (.one (.ptr 30004 0))), (2, .at (.one (.ptr 30000 0)))], [(30004, some ⟨.lst [.part 3 0 4, .part 3 1 4, .part 3 2 4, .part 3 3 4], 0, none⟩), (30000, some ⟨.lst [.lit (.int .u64 0), .lit (.int .u64 0), .lit (.int .u64 0), .lit (.int .u64 0)], 0, none⟩), (10000, some ⟨.all 0, 4, none⟩)], [(30004, true), (30000, true)]⟩
noncomputable def E_Add_1 : Option Ran := ex1 (cfg 18) (fun n => if n = 4 then some true else none) 0 4000 50000 4 (T_Add) [.c (codeF E_Add_0)] .nor
noncomputable def E_Add_2 : Option Ran := ex1 (cfg 18) (fun n => if n = 4 then some false else none) 0 4000 70000 4 (T_Add) [.c (codeF E_Add_0)] .nor
noncomputable def E_Add_3 : Option Ran := ex1 (cfg 18) (fun _ => none) 0 4000 90000 5 (stOf E_Add_2) (kontF E_Add_0) (.exit 0)
theorem c_Add : Ctr Try.prog glb0 23 (s1v 4) ΦAdd := by
  refine ctr (C := cfg 18) mixed ti_ok Try.func23 (by kernel_rfl) ?_
  rintro ds r X Q hl ⟨l, hb, hn, rfl, rfl⟩ hE
  refine Jd.go2 (E := E_Add_0) 1 [nums l] rfl rfl rfl [.len 0 4 1] (by kernel_rfl) ?_
  refine vc_len (k := l.length) (fun _ => rfl) (nums_size l) rfl ?_
  refine vc_nil ?_
  refine JF.loop (by kernel_rfl) ?_
  refine Jd.loop (T := T_Add) (m := 2) (Inv := fun n xs => ∃ i, i ≤ l.length ∧ xs = [I i, fn [sumF ((l.take i).map ofN)]] ∧ n = l.length - i) (n0 := l.length) (τ := [.at (.one (.lit (.int .i64 0))), .at (.agg [.lit (.int .u64 0), .lit (.int .u64 0), .lit (.int .u64 0), .lit (.int .u64 0)])]) (π := []) (by kernel_rfl) (by kernel_rfl) ?_ fun n xs hlen hI => ?_
  · exact ⟨0, Nat.zero_le _, by kernel_rfl, rfl⟩
  obtain ⟨i, hi, rfl, rfl⟩ := hI
  by_cases hlt : i < l.length
  · refine Jd.go2 (E := E_Add_1) 4 [fn [sumF ((l.take i).map ofN)], I i, I l.length, nums l] rfl rfl rfl [.bin .lss 3 (.at (.one (.var 2))) (.at (.one (.var 1))) 4, .isBool 4 true, .bndl 2 0 4, .getxa (.all 0) 2 4 4 5, .isAgg 5 4, .isAgg 3 4, .isAgg 5 4, .call 53 ⟨none, [.one .v], .two (.one .v)⟩ [.one (.a (.var 5))] 6, .call 56 ⟨none, [.one .v, .one .v], .two (.one .v)⟩ [.one (.a (.var 3)), .one (.a (.var 6))] 7, .isAgg 7 4, .bin .add 3 (.at (.one (.var 2))) (.at (.one (.lit (.int .i64 1)))) 8] (by kernel_rfl) ?_
    refine vc_cmp (x := i) (y := l.length) (t := decide (i < l.length)) (fun _ => rfl) (fun _ => rfl) rfl rfl ?_
    refine vc_isBool (by simp [lr, Bo, hlt]) ?_
    refine vc_bndl (i := i) rfl rfl (by rw [nums_size]; omega) ?_
    refine vc_getxaN (xs := l) hlt (fun _ => rfl) (fun _ => rfl) rfl ?_
    refine vc_isAgg rfl rfl rfl ?_
    refine vc_isAgg rfl rfl rfl ?_
    refine vc_isAgg rfl rfl rfl ?_
    refine vc_call c_small (ds := [nums [l[i]]]) (r := fn [ofN (l[i])]) (fun _ => rfl) rfl (⟨_, (hb _ (List.getElem_mem _)), rfl, rfl⟩) ?_
    refine vc_call c_add (ds := [fn [sumF ((l.take i).map ofN)], fn [ofN (l[i])]]) (r := fn [(sumF ((l.take i).map ofN)) + (ofN (l[i]))]) (fun _ => rfl) rfl (⟨_, _, rfl, rfl⟩) ?_
    refine vc_isAgg rfl rfl rfl ?_
    refine vc_addI (x := i) (y := 1) (fun _ => rfl) (fun _ => rfl) (by omega) rfl ?_
    refine vc_nil ?_
    refine JF.nor (by kernel_rfl) ?_
    exact Jd.next (m := 2) (τ := [.at (.one (.var 8)), .at (.one (.var 7))]) (π := []) (l.length - (i + 1)) (by kernel_rfl) (by kernel_rfl) (by kernel_rfl) (by omega) (⟨i + 1, hlt, by rw [take_succ_map l i hlt, sumF_snoc]; rfl, rfl⟩)
  · refine Jd.go2 (E := E_Add_2) 4 [fn [sumF ((l.take i).map ofN)], I i, I l.length, nums l] rfl rfl rfl [.bin .lss 3 (.at (.one (.var 2))) (.at (.one (.var 1))) 4, .isBool 4 false] (by kernel_rfl) ?_
    refine vc_cmp (x := i) (y := l.length) (t := decide (i < l.length)) (fun _ => rfl) (fun _ => rfl) rfl rfl ?_
    refine vc_isBool (by simp [lr, Bo, hlt]) ?_
    refine vc_nil ?_
    refine JF.exit (n := 0) (by kernel_rfl) ?_
    refine Jd.out (by simp) ?_
    refine Jd.go2 (E := E_Add_3) 5 [Bo (decide (i < l.length)), fn [sumF ((l.take i).map ofN)], I i, I l.length, nums l] rfl rfl rfl [.isAgg 3 4, .isAgg 3 4] (by kernel_rfl) ?_
    refine vc_isAgg rfl rfl rfl ?_
    refine vc_isAgg rfl rfl rfl ?_
    refine vc_nil ?_
    refine JF.ret (by kernel_rfl) ?_
    refine hE.fin3 5 [Bo (decide (i < l.length)), fn [sumF ((l.take i).map ofN)], I i, I l.length, nums l] rfl rfl (cm := [.isAgg 3 4]) (ds := [.v (.at (.one (.var 3)))]) (by kernel_rfl) rfl (.inr rfl) ?_
    refine vc_isAgg rfl rfl rfl ?_
    refine vc_nil ?_
    show fn [sumF ((l.take i).map ofN)] = _
    rw [List.take_of_length_le (by omega)]

theorem c_AddF : Ctr Try.prog glb0 23 (s1v 4) ΦAddF := c_Add.imp fun _ _ ⟨l, hn, h1, h2⟩ => ⟨l.map Fin.val, fun x hx => by obtain ⟨y, _, rfl⟩ := List.mem_map.1 hx; exact F_lt y, by simpa using hn, h1, by rw [h2, List.map_map, show (ofN ∘ Fin.val : F → F) = id from funext ofN_val, List.map_id]⟩
end Go.Proofs.Ytpeafegfjhljmaa

/-
  Functions of the program: what each computes.
-/
open Go Go.Sx Go.Proofs
open Ed (F P inv pw Pt)
namespace Go.Proofs.Ytpeafegfjhljmaa
set_option maxRecDepth 100000
set_option maxHeartbeats 4000000
noncomputable def E_bit_0 : Option Ran := ex1 (cfg 13) (fun _ => none) 0 4000 30000 2 (inSt (v2v)) [.c (bodyOf Try.f76)] .nor
theorem c_bit : Ctr Try.prog glb0 76 v2v Φbit := by
  refine ctr (C := cfg 13) mixed ti_ok Try.func76 (by kernel_rfl) ?_
  rintro ds r X Q hl ⟨x, i, hx, hi, rfl, rfl⟩ hE
  refine Jd.go2 (E := E_bit_0) 2 [I i, nums [x]] rfl rfl rfl [.isAgg 0 4, .bin .quo 3 (.at (.one (.var 1))) (.at (.one (.lit (.int .i64 64)))) 2, .bnd 2 4, .getx (.lst [.part 0 0 4, .part 0 1 4, .part 0 2 4, .part 0 3 4]) 2 1 3, .bin .rem 3 (.at (.one (.var 1))) (.at (.one (.lit (.int .i64 64)))) 4, .bin .shr 24 (.at (.one (.var 3))) (.at (.one (.var 4))) 5, .bin .and 24 (.at (.one (.var 5))) (.at (.one (.lit (.int .u64 1)))) 6] (by kernel_rfl) ?_
  refine vc_isAgg rfl rfl rfl ?_
  refine vc_quoI (x := i) (y := 64) (fun _ => rfl) (fun _ => rfl) (by omega) (by decide) rfl ?_
  refine vc_bnd (i := i / 64) rfl (by omega) ?_
  refine vc_getx (i := i / 64) (cl := wds 4 x) (fun _ => rfl) (fun _ => rfl) (by rw [Nat.mul_one]; exact word_get x (i / 64) (by omega)) rfl ?_
  refine vc_remI (x := i) (y := 64) (fun _ => rfl) (fun _ => rfl) (by decide) rfl ?_
  refine vc_shr64 (x := x / 2 ^ (64 * (i / 64)) % 18446744073709551616) (y := i % 64) (fun _ => rfl) (fun _ => rfl) rfl (by omega) fun v5 h5 => ?_
  refine vc_and64 (x := v5) (y := 1) (fun _ => rfl) (fun _ => rfl) rfl (by rw [h5]; exact Nat.lt_of_le_of_lt (Nat.div_le_self _ _) (Nat.mod_lt _ (by decide))) (by decide) fun v6 h6 => ?_
  refine vc_nil ?_
  refine JF.ret (by kernel_rfl) ?_
  refine hE.fin3 7 [U v6, U v5, I (i % 64), U (x / 2 ^ (64 * (i / 64)) % 18446744073709551616), I (i / 64), I i, nums [x]] rfl rfl (cm := []) (ds := [.v (.at (.one (.var 6)))]) (by kernel_rfl) rfl (.inr rfl) ?_
  refine vc_nil ?_
  show U v6 = _
  rw [h6, Nat.and_one_is_mod, h5, bit_word]

noncomputable def E_power_0 : Option Ran := ex1 (cfg 23) (fun _ => none) 0 4000 30000 2 (inSt (v2v)) [.c (bodyOf Try.f54)] .nor
def T_power : St := ⟨[(6, .at (.one (.var 2))), (5, .at (.one (.ptr 30016 0))), (4, .at (.one (.ptr 30008 0))), (3, .at (.one (.ptr 30004 0))), (2, .at (.one (.ptr 30000 0)))], [(30016, some ⟨.lst [.part 3 0 4, .part 3 1 4, .part 3 2 4, .part 3 3 4], 0, none⟩), (30008, some ⟨.lst [.lit (.int .u64 0), .lit (.int .u64 0), .lit (.int .u64 0), .lit (.int .u64 0)], 0, none⟩), (30004, some ⟨.lst [.part 1 0 4, .part 1 1 4, .part 1 2 4, .part 1 3 4], 0, none⟩), (30000, some ⟨.lst [.part 0 0 4, .part 0 1 4, .part 0 2 4, .part 0 3 4], 0, none⟩)], [(30016, true), (30008, true), (30004, true), (30000, true)]⟩
noncomputable def E_power_1 : Option Ran := ex1 (cfg 23) (fun n => if n = 4 then some true else if n = 7 then some true else none) 0 4000 50000 4 (T_power) [.c (codeF E_power_0)] .nor
noncomputable def E_power_2 : Option Ran := ex1 (cfg 23) (fun n => if n = 4 then some true else if n = 7 then some false else none) 0 4000 70000 4 (T_power) [.c (codeF E_power_0)] .nor
noncomputable def E_power_3 : Option Ran := ex1 (cfg 23) (fun n => if n = 4 then some false else none) 0 4000 90000 4 (T_power) [.c (codeF E_power_0)] .nor
noncomputable def E_power_4 : Option Ran := ex1 (cfg 23) (fun _ => none) 0 4000 110000 5 (stOf E_power_3) (kontF E_power_0) (.exit 0)
theorem c_power : Ctr Try.prog glb0 54 v2v ΦPower := by
  refine ctr (C := cfg 23) mixed ti_ok Try.func54 (by kernel_rfl) ?_
  rintro ds r X Q hl ⟨x, e, hx, he, rfl, rfl⟩ hE
  refine Jd.go2 (E := E_power_0) 2 [nums [e], nums [x]] rfl rfl rfl [.isAgg 0 4, .isAgg 1 4] (by kernel_rfl) ?_
  refine vc_isAgg rfl rfl rfl ?_
  refine vc_isAgg rfl rfl rfl ?_
  refine vc_nil ?_
  refine JF.loop (by kernel_rfl) ?_
  refine Jd.loop (T := T_power) (m := 2) (Inv := fun n xs => (∃ j, j < 256 ∧ n = j + 1 ∧ xs = [I j, fn [pw (ofN x) (e / 2 ^ (j + 1))]]) ∨ (n = 0 ∧ xs = [Value.int .i64 (-1), fn [pw (ofN x) e]])) (n0 := 256) (τ := [.at (.one (.lit (.int .i64 255))), .at (.agg [.lit (.int .u64 1), .lit (.int .u64 0), .lit (.int .u64 0), .lit (.int .u64 0)])]) (π := []) (by kernel_rfl) (by kernel_rfl) ?_ fun n xs hlen hI => ?_
  · exact .inl ⟨255, by decide, rfl, by rw [show e / 2 ^ (255 + 1) = 0 from Nat.div_eq_of_lt (Nat.lt_of_lt_of_le he (by decide))]; kernel_rfl⟩
  rcases hI with ⟨j, hj, rfl, rfl⟩ | ⟨rfl, rfl⟩
  · obtain ⟨k1, k2⟩ := pw_bit (ofN x) e j _ rfl
    by_cases hb : e / 2 ^ j % 2 = 1
    · refine Jd.go2 (E := E_power_1) 4 [fn [pw (ofN x) (e / 2 ^ (j + 1))], I j, nums [e], nums [x]] rfl rfl rfl [.bin .geq 3 (.at (.one (.var 2))) (.at (.one (.lit (.int .i64 0)))) 4, .isBool 4 true, .isAgg 3 4, .isAgg 3 4, .call 55 ⟨none, [.one .v, .one .v], .two (.one .v)⟩ [.one (.a (.var 3)), .one (.a (.var 3))] 5, .isAgg 5 4, .isAgg 1 4, .call 76 ⟨none, [.one .v, .one .v], .two (.one .v)⟩ [.one (.a (.var 1)), .one (.a (.var 2))] 6, .bin .eql 24 (.at (.one (.var 6))) (.at (.one (.lit (.int .u64 1)))) 7, .isBool 7 true, .isAgg 5 4, .isAgg 0 4, .call 55 ⟨none, [.one .v, .one .v], .two (.one .v)⟩ [.one (.a (.var 5)), .one (.a (.var 0))] 8, .isAgg 8 4, .bin .sub 3 (.at (.one (.var 2))) (.at (.one (.lit (.int .i64 1)))) 9] (by kernel_rfl) ?_
      refine vc_cmp (op := .geq) (x := j) (y := (0 : Nat)) (k := .i64) (t := decide (0 ≤ j)) (by exact fun _ => rfl) (by exact fun _ => rfl) rfl rfl ?_
      refine vc_isBool (by simp [lr, Bo]) ?_
      refine vc_isAgg rfl rfl rfl ?_
      refine vc_isAgg rfl rfl rfl ?_
      refine vc_call c_mulF (ds := [fn [pw (ofN x) (e / 2 ^ (j + 1))], fn [pw (ofN x) (e / 2 ^ (j + 1))]]) (r := fn [(pw (ofN x) (e / 2 ^ (j + 1))) * (pw (ofN x) (e / 2 ^ (j + 1)))]) (fun _ => rfl) rfl (⟨_, _, rfl, rfl⟩) ?_
      refine vc_isAgg rfl rfl rfl ?_
      refine vc_isAgg rfl rfl rfl ?_
      refine vc_call c_bit (ds := [nums [e], I j]) (r := U (e / 2 ^ j % 2)) (fun _ => rfl) rfl (⟨_, _, he, hj, rfl, rfl⟩) ?_
      refine vc_eql64 (x := e / 2 ^ j % 2) (y := 1) (fun _ => rfl) (fun _ => rfl) rfl fun v7 h7 => ?_
      refine vc_isBool (by show Bo v7 = _; rw [h7]; simp [Bo, hb]) ?_
      refine vc_isAgg rfl rfl rfl ?_
      refine vc_isAgg rfl rfl rfl ?_
      refine vc_call c_mulM (ds := [fn [(pw (ofN x) (e / 2 ^ (j + 1))) * (pw (ofN x) (e / 2 ^ (j + 1)))], nums [x]]) (r := fn [((pw (ofN x) (e / 2 ^ (j + 1))) * (pw (ofN x) (e / 2 ^ (j + 1)))) * ofN x]) (fun _ => rfl) rfl (⟨_, _, hx, rfl, rfl⟩) ?_
      refine vc_isAgg rfl rfl rfl ?_
      refine vc_subI (x := j) (y := 1) (fun _ => rfl) (fun _ => rfl) (by omega) (by decide) rfl ?_
      refine vc_nil ?_
      refine JF.nor (by kernel_rfl) ?_
      cases j with
      | zero =>
        exact Jd.next (m := 2) (τ := [.at (.one (.var 9)), .at (.one (.var 8))]) (π := []) (0) (by kernel_rfl) (by kernel_rfl) (by kernel_rfl) (by omega) (.inr ⟨rfl, by have := k1 hb; rw [show e / 2 ^ 0 = e by simp] at this; rw [← this]; rfl⟩)
      | succ j =>
        exact Jd.next (m := 2) (τ := [.at (.one (.var 9)), .at (.one (.var 8))]) (π := []) (j + 1) (by kernel_rfl) (by kernel_rfl) (by kernel_rfl) (by omega) (.inl ⟨j, by omega, rfl, by rw [← k1 hb]; show [Value.int .i64 (((j + 1 : Nat) : Int) - (1 : Nat)), _] = _; rw [show ((j + 1 : Nat) : Int) - (1 : Nat) = (j : Int) by omega]; rfl⟩)
    · refine Jd.go2 (E := E_power_2) 4 [fn [pw (ofN x) (e / 2 ^ (j + 1))], I j, nums [e], nums [x]] rfl rfl rfl [.bin .geq 3 (.at (.one (.var 2))) (.at (.one (.lit (.int .i64 0)))) 4, .isBool 4 true, .isAgg 3 4, .isAgg 3 4, .call 55 ⟨none, [.one .v, .one .v], .two (.one .v)⟩ [.one (.a (.var 3)), .one (.a (.var 3))] 5, .isAgg 5 4, .isAgg 1 4, .call 76 ⟨none, [.one .v, .one .v], .two (.one .v)⟩ [.one (.a (.var 1)), .one (.a (.var 2))] 6, .bin .eql 24 (.at (.one (.var 6))) (.at (.one (.lit (.int .u64 1)))) 7, .isBool 7 false, .bin .sub 3 (.at (.one (.var 2))) (.at (.one (.lit (.int .i64 1)))) 8] (by kernel_rfl) ?_
      refine vc_cmp (op := .geq) (x := j) (y := (0 : Nat)) (k := .i64) (t := decide (0 ≤ j)) (by exact fun _ => rfl) (by exact fun _ => rfl) rfl rfl ?_
      refine vc_isBool (by simp [lr, Bo]) ?_
      refine vc_isAgg rfl rfl rfl ?_
      refine vc_isAgg rfl rfl rfl ?_
      refine vc_call c_mulF (ds := [fn [pw (ofN x) (e / 2 ^ (j + 1))], fn [pw (ofN x) (e / 2 ^ (j + 1))]]) (r := fn [(pw (ofN x) (e / 2 ^ (j + 1))) * (pw (ofN x) (e / 2 ^ (j + 1)))]) (fun _ => rfl) rfl (⟨_, _, rfl, rfl⟩) ?_
      refine vc_isAgg rfl rfl rfl ?_
      refine vc_isAgg rfl rfl rfl ?_
      refine vc_call c_bit (ds := [nums [e], I j]) (r := U (e / 2 ^ j % 2)) (fun _ => rfl) rfl (⟨_, _, he, hj, rfl, rfl⟩) ?_
      refine vc_eql64 (x := e / 2 ^ j % 2) (y := 1) (fun _ => rfl) (fun _ => rfl) rfl fun v7 h7 => ?_
      refine vc_isBool (by show Bo v7 = _; rw [h7]; simp [Bo, hb]) ?_
      refine vc_subI (x := j) (y := 1) (fun _ => rfl) (fun _ => rfl) (by omega) (by decide) rfl ?_
      refine vc_nil ?_
      refine JF.nor (by kernel_rfl) ?_
      cases j with
      | zero =>
        exact Jd.next (m := 2) (τ := [.at (.one (.var 8)), .at (.one (.var 5))]) (π := []) (0) (by kernel_rfl) (by kernel_rfl) (by kernel_rfl) (by omega) (.inr ⟨rfl, by have := k2 hb; rw [show e / 2 ^ 0 = e by simp] at this; rw [← this]; rfl⟩)
      | succ j =>
        exact Jd.next (m := 2) (τ := [.at (.one (.var 8)), .at (.one (.var 5))]) (π := []) (j + 1) (by kernel_rfl) (by kernel_rfl) (by kernel_rfl) (by omega) (.inl ⟨j, by omega, rfl, by rw [← k2 hb]; show [Value.int .i64 (((j + 1 : Nat) : Int) - (1 : Nat)), _] = _; rw [show ((j + 1 : Nat) : Int) - (1 : Nat) = (j : Int) by omega]; rfl⟩)
  · refine Jd.go2 (E := E_power_3) 4 [fn [pw (ofN x) e], Value.int .i64 (-1), nums [e], nums [x]] rfl rfl rfl [.bin .geq 3 (.at (.one (.var 2))) (.at (.one (.lit (.int .i64 0)))) 4, .isBool 4 false] (by kernel_rfl) ?_
    refine vc_bin (k := .i64) (x := -1) (y := 0) (r := Bo false) (fun _ => rfl) (fun _ => rfl) rfl rfl ?_
    refine vc_isBool (rfl) ?_
    refine vc_nil ?_
    refine JF.exit (n := 0) (by kernel_rfl) ?_
    refine Jd.out (by simp) ?_
    refine Jd.go2 (E := E_power_4) 5 [Bo false, fn [pw (ofN x) e], Value.int .i64 (-1), nums [e], nums [x]] rfl rfl rfl [.isAgg 3 4, .isAgg 3 4] (by kernel_rfl) ?_
    refine vc_isAgg rfl rfl rfl ?_
    refine vc_isAgg rfl rfl rfl ?_
    refine vc_nil ?_
    refine JF.ret (by kernel_rfl) ?_
    refine hE.fin3 5 [Bo false, fn [pw (ofN x) e], Value.int .i64 (-1), nums [e], nums [x]] rfl rfl (cm := [.isAgg 3 4]) (ds := [.v (.at (.one (.var 3)))]) (by kernel_rfl) rfl (.inr rfl) ?_
    refine vc_isAgg rfl rfl rfl ?_
    refine vc_nil ?_
    show fn [pw (ofN x) e] = _
    rfl

theorem c_powerF : Ctr Try.prog glb0 54 v2v (fun ds r => ∃ (x : F) (n : Nat), n < 115792089237316195423570985008687907853269984665640564039457584007913129639936 ∧ ds = [fn [x], nums [n]] ∧ r = fn [pw x n]) := c_power.imp fun _ _ ⟨x, n, hn, h1, h2⟩ => ⟨x.val, n, F_lt x, hn, h1, by rw [h2, ofN_val]⟩
noncomputable def E_inverse_0 : Option Ran := ex1 (cfg 14) (fun _ => none) 0 4000 30000 1 (inSt (v1v)) [.c (bodyOf Try.f22)] .nor
theorem c_inverse : Ctr Try.prog glb0 22 v1v ΦInv := by
  refine ctr (C := cfg 14) mixed ti_ok Try.func22 (by kernel_rfl) ?_
  rintro ds r X Q hl ⟨x, hx, rfl, rfl⟩ hE
  refine Jd.go2 (E := E_inverse_0) 1 [nums [x]] rfl rfl rfl [.isAgg 0 4, .call 18 ⟨none, [], .two (.one .v)⟩ [] 1, .call 52 ⟨none, [.one .v, .one .v], .tup [.one .v, .one .v]⟩ [.one (.a (.var 1)), .agg [.a (.lit (.int .u64 2)), .a (.lit (.int .u64 0)), .a (.lit (.int .u64 0)), .a (.lit (.int .u64 0))]] 2, .tupc 2 0 3, .tupc 2 1 4, .isAgg 3 4, .isAgg 0 4, .isAgg 3 4, .call 54 ⟨none, [.one .v, .one .v], .two (.one .v)⟩ [.one (.a (.var 0)), .one (.a (.var 3))] 5, .isAgg 5 4] (by kernel_rfl) ?_
  refine vc_isAgg rfl rfl rfl ?_
  refine vc_call c_prime (ds := []) (r := nums [Ed.P]) (fun _ => rfl) rfl (⟨rfl, rfl⟩) ?_
  refine vc_call c_minus (ds := [nums [Ed.P], nums [2]]) (r := Value.tuple #[nums [(Ed.P + 115792089237316195423570985008687907853269984665640564039457584007913129639936 - 2) % 115792089237316195423570985008687907853269984665640564039457584007913129639936], U ((if Ed.P < 2 then 1 else 0))]) (fun _ => rfl) rfl (⟨_, _, (by decide), (by decide), rfl, rfl⟩) ?_
  refine vc_tupc (fun _ => rfl) rfl rfl ?_
  refine vc_tupc (fun _ => rfl) rfl rfl ?_
  refine vc_isAgg rfl rfl rfl ?_
  refine vc_isAgg rfl rfl rfl ?_
  refine vc_isAgg rfl rfl rfl ?_
  refine vc_call c_power (ds := [nums [x], nums [(Ed.P + 115792089237316195423570985008687907853269984665640564039457584007913129639936 - 2) % 115792089237316195423570985008687907853269984665640564039457584007913129639936]]) (r := fn [pw (ofN x) ((Ed.P + 115792089237316195423570985008687907853269984665640564039457584007913129639936 - 2) % 115792089237316195423570985008687907853269984665640564039457584007913129639936)]) (fun _ => rfl) rfl (⟨_, _, hx, (Nat.mod_lt _ (by decide)), rfl, rfl⟩) ?_
  refine vc_isAgg rfl rfl rfl ?_
  refine vc_nil ?_
  refine JF.ret (by kernel_rfl) ?_
  refine hE.fin3 6 [fn [pw (ofN x) ((Ed.P + 115792089237316195423570985008687907853269984665640564039457584007913129639936 - 2) % 115792089237316195423570985008687907853269984665640564039457584007913129639936)], U ((if Ed.P < 2 then 1 else 0)), nums [(Ed.P + 115792089237316195423570985008687907853269984665640564039457584007913129639936 - 2) % 115792089237316195423570985008687907853269984665640564039457584007913129639936], Value.tuple #[nums [(Ed.P + 115792089237316195423570985008687907853269984665640564039457584007913129639936 - 2) % 115792089237316195423570985008687907853269984665640564039457584007913129639936], U ((if Ed.P < 2 then 1 else 0))], nums [Ed.P], nums [x]] rfl rfl (cm := [.isAgg 5 4]) (ds := [.v (.at (.one (.var 5)))]) (by kernel_rfl) rfl (.inr rfl) ?_
  refine vc_isAgg rfl rfl rfl ?_
  refine vc_nil ?_
  show fn [pw (ofN x) ((Ed.P + 115792089237316195423570985008687907853269984665640564039457584007913129639936 - 2) % 115792089237316195423570985008687907853269984665640564039457584007913129639936)] = _
  rw [show (Ed.P + 115792089237316195423570985008687907853269984665640564039457584007913129639936 - 2) % 115792089237316195423570985008687907853269984665640564039457584007913129639936 = P - 2 by decide]; rfl

theorem c_invF : Ctr Try.prog glb0 22 v1v ΦInvF := c_inverse.imp fun _ _ ⟨x, h1, h2⟩ => ⟨x.val, F_lt x, h1, by rw [h2, ofN_val]⟩
end Go.Proofs.Ytpeafegfjhljmaa
