/- The executor, second part: regions, code, loops, contracts. -/
import Derived.Test.YtpeafegfjhljmaaVA
/-
  Every operation's step is sound.
-/
namespace Go.Sx
open Go.RowKit (Below)

section
variable {P : Program} {G : Glb} {C : Cfg} {w0 : World} {M : Ms} {N : Nat} {S : St} {σ : Nat → GV} {ρ : Nat → Value} {a : Act} {w : World}

theorem res1_sound (hG : G.ok w0) (hM : ∀ k, M.m k → G.ng ≤ k) (hA : ∀ k, k < G.ng → M.a k) (hg : Gam w0 M N S σ ρ a w) {c : S1} {m ng : Nat} {x : A1} {rw : List (Nat × Option Row)} {wr : List (Nat × Bool)} (h : resOf1 c m ng = some (x, rw, wr)) (hfresh : ¬ S.ment ng) (hng : 10000 ≤ ng) {ks : List Nat}
    (hks : ∀ k ∈ ks, ∃ r, S.row k = some r) {w' : World} (hb : Below w.heap.size w w') {v : Value} (hr : Res1 G.ng w w' (fun b => ∃ k ∈ ks, (σ k).nil = false ∧ (σ k).blk = b) c v (ρ m)) :
    ∃ σ', x.conc σ' ρ = v ∧ ∀ d : Dl, d.rw = rw → d.wr = ks.map (fun k => (k, false)) ++ wr → (∀ t, d.dst = some t → t < N) → d.v.ok σ' ρ → Gam w0 M N (S.app d) σ' ρ (a.put d.dst (d.v.conc σ' ρ)) w' := by
  have he := Ext.of_below hb
  have hngk : ∀ k ∈ ks, k ≠ ng := fun k hk e => by
    obtain ⟨r, hr⟩ := hks k hk
    exact hfresh (.inr (.inl ⟨k, r, hr, .inl e.symm⟩))
  cases c with
  | v =>
    cases h
    refine ⟨σ, hr.symm, fun d d1 d2 d3 d4 => hg.ext_step d1 (fun k b hkb => ?_) d3 d4 he⟩
    rw [d2, List.append_nil] at hkb
    exact map_false_mem hkb
  | ss n => cases h
  | s es el =>
    cases h
    obtain ⟨g, cs, r1, r2, r3, r4, r5⟩ := hr
    refine ⟨upd σ ng g, by simp only [A1.conc, upd_self]; exact r1.symm, fun d d1 d2 d3 d4 => ?_⟩
    have ec : (RC.all m).cont (upd σ ng g) ρ = cs.toList := by simp only [RC.cont, r2, Value.cells]
    refine hg.add_row (gv := g) hfresh hng d1 (fun k b hkb hbt => ?_) d3 he ⟨?_, ?_, ?_⟩ (fun _ hn => ?_) (fun hn k' hk' hne' hn' => ?_) (fun hn => .inr (Nat.le_trans hg.frm.size (ownsRow_there r5 hn).2.2.1)) d4
    · rw [d2] at hkb
      rcases List.mem_append.1 hkb with h | h
      · rw [map_false_mem h] at hbt; cases hbt
      · simp at h; exact h.1
    · show SliceR _ _ ((RC.all m).cont _ ρ)
      rw [ec, upd_self]; exact r3
    · intro _; show ((RC.all m).cont _ ρ).length = _ ∧ _
      rw [ec, upd_self]; exact r4.2
    · intro e he'
      cases he'
      show _ ∧ World.ownsRow _ _ _ _ _ _ ((RC.all m).cont _ ρ)
      rw [ec, upd_self]
      exact ⟨r4.1, ownsRow_mono r5 hg.frm.size⟩
    · show World.there _ _ _ ((RC.all m).cont _ ρ).length ∧ _
      rw [ec]
      obtain ⟨_, _, q3, _, q5, _⟩ := ownsRow_there r5 hn
      exact ⟨q5, q3⟩
    · have ho : S.own k' = true := by
        cases h : S.own k' with
        | true => rfl
        | false =>
          exfalso
          have : (S.app d).own k' = false := by
            by_cases hkk : k' ∈ ks
            · exact own_wr hkk (q := [(ng, true)]) d2
            · simp only [St.own, St.app, lk_append, d2]
              rw [lk_none (l := ks.map fun k => (k, false)) (by simpa using hkk)]
              have hne2 : ¬ ng = k' := fun e => hne' e.symm
              simp only [lk, if_neg hne2]
              simpa [St.own] using h
          rw [this] at hk'; cases hk'
      obtain ⟨q, hq, _⟩ := hg.own k' ho
      have h1 := (hg.row k' q hq).rd.live hn'
      have h2 := (ownsRow_there r5 hn).2.2.1
      omega
  | sv es =>
    cases h
    obtain ⟨g, cs, r1, r2, r3, r4, r5⟩ := hr
    refine ⟨upd σ ng g, by simp only [A1.conc, upd_self]; exact r1.symm, fun d d1 d2 d3 d4 => ?_⟩
    have ec : (RC.all m).cont (upd σ ng g) ρ = cs.toList := by simp only [RC.cont, r2, Value.cells]
    have hwf : ∀ k b, (k, b) ∈ d.wr → b = false := fun k b hkb => by
      rw [d2, List.append_nil] at hkb; exact map_false_mem hkb
    refine hg.add_row (gv := g) hfresh hng d1 (fun k b hkb hbt => by rw [hwf k b hkb] at hbt; cases hbt) d3 he ⟨?_, ?_, ?_⟩ (fun h => ?_) (fun hn k' hk' hne' hn' => ?_) (fun hn => by
      rcases r5 hn with ⟨k, hk, hkn, hkb⟩ | h | h
      · obtain ⟨r, hr⟩ := hks k hk
        rw [← hkb]; exact hg.src k r hr hkn
      · exact .inr (Nat.le_trans hg.frm.size h)
      · exact .inl (hA _ h)) d4
    · show SliceR _ _ ((RC.all m).cont _ ρ)
      rw [ec, upd_self]; exact r3
    · intro _; show ((RC.all m).cont _ ρ).length = _ ∧ _
      rw [ec, upd_self]; exact r4.2
    · intro e he'; cases he'
    · exact absurd (.inr (.inr (own_app h (hwf ng)).1)) hfresh
    · obtain ⟨ho, hnm⟩ := own_app hk' (hwf k')
      obtain ⟨q, hq, h6⟩ := hg.own k' ho
      rcases r5 hn with ⟨k, hk, hkn, hkb⟩ | h | h
      · have hne : k ≠ k' := fun e => hnm false (by rw [d2, List.append_nil]; exact List.mem_map.2 ⟨k, hk, by rw [e]⟩)
        obtain ⟨r, hr⟩ := hks k hk
        rw [← hkb]
        exact (h6 hn').2.2 k r hne hr hkn
      · have h1 := (hg.row k' q hq).rd.live hn'
        omega
      · have h1 := G.sz w0 hG
        rcases (h6 hn').2.1 with h2 | h2
        · omega
        · have := hM _ h2; omega

theorem sound_call (hG : G.ok w0) (hM : ∀ k, M.m k → G.ng ≤ k) (hA : ∀ k, k < G.ng → M.a k) (hg : Gam w0 M N S σ ρ a w) {o : Oper} {f : Nat} {args : Array Operand} {Ts : Array TypeId} (ho : o.op = .call { callee := .value (.func f), args, argTypes := Ts }) {vs : List AV} (hx : (opndl args.toList).val S = some vs) {nv ng : Nat}
    (hfresh : ¬ S.ment ng) (hng : 10000 ≤ ng) {out : Out} (h : (doCall C nv ng f vs).val S = some out) (hc : ∀ c ∈ out.cm, Cmd.holds P G ρ c) (hdst : ∀ t, o.dst = some t → t < N) :
    Stp P o a w fun a' w' => ∃ σ', Gam w0 M N (S.app (out.dl o.dst)) σ' ρ a' w' := by
  have x1 := (opndl_val hg hx).1
  have hGw : G.ok w := G.keep w0 w hG fun k hk => hg.frm.block k (Nat.lt_of_lt_of_le hk (G.sz w0 hG)) fun hm => by have := hM k hm; omega
  unfold doCall at h
  split at h
  · cases h
  rename_i fs hfs
  split at h
  · cases h
  replace h := Rd.bind_val h
  obtain ⟨ds, hds, h⟩ := h
  split at h
  · cases h
  rename_i r hr
  cases h
  have hrun : ∀ R : Act → World → Prop, Invk P f (vs.map (AV.conc σ ρ)).toArray w (fun v w' => R (a.put o.dst v) w') → Stp P o a w R := by
    intro R hI
    have ha : args.map a.eval = (vs.map (AV.conc σ ρ)).toArray := by apply Array.ext'; rw [Array.toList_map]; exact x1
    have hex : (execOp a.eval o).run P w = (callFunc f (vs.map (AV.conc σ ρ)).toArray).run P w := by
      simp [execOp, ho, resolve, Act.eval, Deferred.ofValue, invoke, ← ha]
    rcases hI with ⟨v, w', h1, h2⟩ | ⟨h1, h2⟩
    · exact .value (by rw [hex]; exact h1) h2
    · exact .call (by rw [hex]; exact h1) h2
  have hcall := hc (.call f fs ds.1 nv) (by simp)
  obtain ⟨Φ, hctr, hΦ⟩ := hcall
  have hI := hctr w (fun b => ∃ k ∈ ds.2, (σ k).nil = false ∧ (σ k).blk = b) _ _ _ hGw (dataArgs_val hg hds fun k hk hn => ⟨k, hk, hn, rfl⟩) hΦ
  refine hrun _ (hI.mono ?_)
  rintro v w' ⟨hres, hb⟩
  have hks := dataArgs_rows hds
  unfold resOf at hr
  split at hr
  · rename_i c hsh
    rw [hsh] at hres
    cases hq : resOf1 c nv ng with
    | none => rw [hq] at hr; cases hr
    | some q =>
      obtain ⟨x, rw', wr'⟩ := q
      rw [hq] at hr
      cases hr
      obtain ⟨σ', s1, s2⟩ := res1_sound hG hM hA hg hq hfresh hng hks hb hres
      refine ⟨σ', ?_⟩
      have := s2 (({ v := .at (.one x), rw := rw', wr := ds.2.map (fun k => (k, false)) ++ wr', cm := .call f fs ds.1 nv :: [], dv := 1 } : Out).dl o.dst) rfl rfl hdst trivial
      rw [show (({ v := .at (.one x), rw := rw', wr := ds.2.map (fun k => (k, false)) ++ wr', cm := .call f fs ds.1 nv :: [], dv := 1 } : Out).dl o.dst).v.conc σ' ρ = v from s1] at this
      exact this
  · rename_i hsh
    rw [hsh] at hres
    cases hr
    refine ⟨σ, ?_⟩
    have hv : v = ρ nv := hres
    rw [hv]
    exact hg.ext_step (d := ({ v := .at (.one (.var nv)), wr := ds.2.map (fun k => (k, false)) ++ [], cm := .call f fs ds.1 nv :: [], dv := 1 } : Out).dl o.dst) rfl (fun k b hkb => by
      simp only [Out.dl, List.append_nil] at hkb; exact map_false_mem hkb) hdst trivial (Ext.of_below hb)
  · rename_i c hne hsh
    rw [hsh] at hres
    cases hq : resOf1 c (nv + 1) ng with
    | none => rw [hq] at hr; cases hr
    | some q =>
      obtain ⟨x, rw', wr'⟩ := q
      rw [hq] at hr
      cases hr
      have hres' : ∃ v1 d1 y, v = .tuple #[v1, y] ∧ ρ nv = .tuple #[d1, y] ∧ Res1 G.ng w w' (fun b => ∃ k ∈ ds.2, (σ k).nil = false ∧ (σ k).blk = b) c v1 d1 := by
        cases c with
        | v => exact (hne rfl).elim
        | _ => exact hres
      obtain ⟨v1, d1, y, e1, e2, hres1⟩ := hres'
      obtain ⟨vs1, t1, t2⟩ := hc (.tupc nv 0 (nv + 1)) (by simp)
      obtain ⟨vs2, t3, t4⟩ := hc (.tupc nv 1 (nv + 2)) (by simp)
      rw [e2] at t1 t3
      cases t1
      cases t3
      simp at t2 t4
      rw [t2] at hres1
      obtain ⟨σ', s1, s2⟩ := res1_sound hG hM hA hg hq hfresh hng hks hb hres1
      refine ⟨σ', ?_⟩
      have := s2 (({ v := .tup [.one x, .one (.var (nv + 2))], rw := rw', wr := ds.2.map (fun k => (k, false)) ++ wr', cm := .call f fs ds.1 nv :: [.tupc nv 0 (nv + 1), .tupc nv 1 (nv + 2)], dv := 3 } : Out).dl o.dst) rfl rfl hdst
        (by intro x hx; simp at hx; rcases hx with rfl | rfl <;> trivial)
      rw [show (({ v := .tup [.one x, .one (.var (nv + 2))], rw := rw', wr := ds.2.map (fun k => (k, false)) ++ wr', cm := .call f fs ds.1 nv :: [.tupc nv 0 (nv + 1), .tupc nv 1 (nv + 2)], dv := 3 } : Out).dl o.dst).v.conc σ' ρ = v by
        show Value.tuple #[x.conc σ' ρ, ρ (nv + 2)] = v
        rw [s1, e1, t4]] at this
      exact this
  · cases hr

theorem sound_ext (hg : Gam w0 M N S σ ρ a w) {o : Oper} {op : Op} {us : List AV} {nv : Nat} (hc : Cmd.holds P G ρ (.ext 0 op us nv))
    (he : execOp a.eval o = execOp (argEval (us.map (AV.den ρ))) { dst := none, op, type := 0, pos := "", after := #[], guard := none }) (hdst : ∀ t, o.dst = some t → t < N) :
    Stp P o a w fun a' w' => ∃ σ', Gam w0 M N (S.app (({ v := v1 nv, cm := [.ext 0 op us nv], dv := 1 } : Out).dl o.dst)) σ' ρ a' w' := by
  refine sound_pure hg (v := v1 nv) ?_ trivial hdst _ _
  rw [he]
  exact hc w

theorem litNat_val {v : AV} {n : Nat} (h : litNat v = some n) : ∃ k, v.conc σ ρ = .int k (n : Int) := by
  unfold litNat at h
  split at h
  · rename_i k j
    split at h
    · simp at h
      refine ⟨k, ?_⟩
      simp only [AV.conc, AT.conc, A1.conc]
      rw [← h]; congr 1; omega
    · cases h
  · cases h

theorem run_convStr {s d el : TypeId} {g : GV} {str : ByteArray} {v : Value} (hs : P.underlying s = some (.slice el)) (hd : P.underlying d = some .string) (he : P.underlying el = some (.int .u8)) (h : (Conv.bytesToString g.slv).run P w = .ok (.string str) w) (hv : v = .string str) :
    (convert s d g.slv).run P w = .ok v w := by
  unfold convert
  rw [Sem.run_bind, run_underlying hs]
  simp only [Result.andThen_ok]
  rw [Sem.run_bind, run_underlying hd]
  simp only [Result.andThen_ok]
  have : g.slv = .slice none 0 0 ∨ ∃ ad l c, g.slv = .slice (some ad) l c := by
    unfold GV.slv; split
    · exact .inl rfl
    · exact .inr ⟨_, _, _, rfl⟩
  rcases this with e | ⟨ad, l, c, e⟩ <;> rw [e] at h ⊢ <;> simp only [Sem.run_bind, run_underlying he, Result.andThen_ok] <;> rw [h, hv]

theorem dOp_sound (hti : TIok P C.ti) (hG : G.ok w0) (hM : ∀ k, M.m k → G.ng ≤ k) (hA : ∀ k, k < G.ng → M.a k) (hg : Gam w0 M N S σ ρ a w) {o : Oper} {nv ng : Nat} (hfresh : ¬ S.ment ng) (hng : 10000 ≤ ng) {out : Out} (h : (dOp C nv ng o.op).val S = some out)
    (hc : ∀ c ∈ out.cm, Cmd.holds P G ρ c) (hdst : ∀ t, o.dst = some t → t < N) :
    Stp P o a w fun a' w' => ∃ σ', Gam w0 M N (S.app (out.dl o.dst)) σ' ρ a' w' := by
  generalize ho : o.op = op at h
  unfold dOp at h
  split at h
  · -- move
    replace h := Rd.bind_val h
    obtain ⟨v, hv, h⟩ := h
    cases h
    exact sound_move hg (.inl ho) hv hdst _ _
  · replace h := Rd.bind_val h
    obtain ⟨v, hv, h⟩ := h
    cases h
    exact sound_move hg (.inr ho) hv hdst _ _
  · -- pick
    replace h := Rd.bind_val h
    obtain ⟨vc, h1, h⟩ := h
    replace h := Rd.bind_val h
    obtain ⟨va, h2, h⟩ := h
    replace h := Rd.bind_val h
    obtain ⟨vb, h3, h⟩ := h
    exact sound_pick hg ho h1 h2 h3 h hc hdst
  · -- alloc
    split at h
    · rename_i t ht
      cases h
      exact sound_alloc hti hg ho ht hfresh hng hdst
    · cases h
  · -- box
    replace h := Rd.bind_val h
    obtain ⟨v, hv, h⟩ := h
    split at h
    · rename_i t ht
      split at h
      · rename_i cs cm hcs
        cases h
        exact sound_box hti hg ho hv ht hcs hc hfresh hng hdst
      · cases h
    · cases h
  · -- build
    replace h := Rd.bind_val h
    obtain ⟨vs, hv, h⟩ := h
    exact sound_build hti hg ho hv h hc hdst
  · -- buildSlice
    replace h := Rd.bind_val h
    obtain ⟨vs, hv, h⟩ := h
    exact sound_buildSlice hti hg ho hv hfresh hng h hc hdst
  · -- load
    replace h := Rd.bind_val h
    obtain ⟨v, hv, h⟩ := h
    exact sound_load hti hg ho hv h hc hdst
  · -- store
    replace h := Rd.bind_val h
    obtain ⟨p, hp, h⟩ := h
    replace h := Rd.bind_val h
    obtain ⟨v, hv, h⟩ := h
    exact sound_store hti hg ho hp hv h hc hdst
  · -- nilCheck
    replace h := Rd.bind_val h
    obtain ⟨v, hv, h⟩ := h
    split at h
    · cases h
      exact sound_nilCheck hg ho hv hdst
    · cases h
  · -- binOp
    replace h := Rd.bind_val h
    obtain ⟨u, hu, h⟩ := h
    replace h := Rd.bind_val h
    obtain ⟨v, hv, h⟩ := h
    split at h
    · rename_i r hr
      cases h
      exact sound_fold hg ho hu hv hr hdst
    replace h := Rd.chk_val h
    obtain ⟨hp, h⟩ := h
    simp only [Bool.and_eq_true] at hp
    cases h
    exact sound_bin hg ho hu hv hp.1 hp.2 (hc _ (List.mem_singleton.2 rfl)) hdst
  · -- unOp
    replace h := Rd.bind_val h
    obtain ⟨u, hu, h⟩ := h
    replace h := Rd.chk_val h
    obtain ⟨hp, h⟩ := h
    cases h
    exact sound_un hg ho hu hp (hc _ (List.mem_singleton.2 rfl)) hdst
  · -- convert
    replace h := Rd.bind_val h
    obtain ⟨u, hu, h⟩ := h
    split at h
    · rename_i k
      split at h
      · rename_i el s1 s2 s3 d1 d2 d3 hs hd
        split at h
        · rename_i f1 f2 f3 hel
          replace h := row!_val h
          obtain ⟨r, hr, h⟩ := h
          replace h := Rd.chk_val h
          obtain ⟨hp, h⟩ := h
          simp only [Bool.and_eq_true, beq_iff_eq] at hp
          cases h
          obtain ⟨l, e1, e2⟩ := hc _ (List.mem_singleton.2 rfl)
          obtain ⟨q1, q2⟩ := row_slice hg hr (by rw [hp.1]; omega) hp.2
          rw [hp.1, e1] at q2
          rw [e1] at q1
          obtain ⟨_, _, _, _, _, _, _, _, _, ⟨hus, _⟩, _⟩ := hti _ _ hs
          obtain ⟨_, _, _, _, _, _, _, _, _, hud, _⟩ := hti _ _ hd
          obtain ⟨_, _, _, _, _, _, _, _, _, hue, _⟩ := hti _ _ hel
          refine sound_pure hg (v := v1 nv) ?_ trivial hdst _ _
          have hrun := run_bytesToString (P := P) q1 q2
          have ev : a.eval _ = (σ k).slv := (opnd_val hg hu).1
          have hcv : (convert _ _ (σ k).slv).run P w = .ok (ρ nv) w := run_convStr hus hud hue hrun e2
          simp only [execOp, ho, ev, Sem.run_bind, hcv, Result.andThen_ok, Sem.run_pure]
          rfl
        · cases h
      · cases h
    · rename_i hne
      replace h := Rd.chk_val h
      obtain ⟨hp, h⟩ := h
      cases h
      exact sound_conv hg ho hu hp (hc _ (List.mem_singleton.2 rfl)) hdst
  · -- sliceToArrayPointer
    replace h := Rd.bind_val h
    obtain ⟨v, hv, h⟩ := h
    exact sound_arrPtr hti hg ho hv h hc hdst
  · -- makeSlice
    replace h := Rd.bind_val h
    obtain ⟨x, hx, h⟩ := h
    replace h := Rd.bind_val h
    obtain ⟨y, hy, h⟩ := h
    split at h
    · rename_i el s1 s2 s3 p q hT
      split at h
      · rename_i e he
        split at h
        · rename_i n m hn hm
          replace h := Rd.chk_val h
          obtain ⟨hb, h⟩ := h
          simp only [Bool.and_eq_true, beq_iff_eq, bne_iff_ne, decide_eq_true_eq] at hb
          obtain ⟨⟨⟨⟨⟨b1, b2⟩, b3⟩, b4⟩, b5⟩, b6⟩ := hb
          subst b1
          cases h
          obtain ⟨k1, e1⟩ := litNat_val (σ := σ) (ρ := ρ) hn
          obtain ⟨k2, e2⟩ := litNat_val (σ := σ) (ρ := ρ) hm
          refine sound_makeSlice hti hg ho hT he (by rw [(opnd_val hg hx).1]; exact e1) (by rw [(opnd_val hg hy).1]; exact e2) (by omega) b3 b5 b6 hfresh hng (rc := .lst ((List.replicate n (e.zero.map A1.lit)).flatten)) ?_ ?_ _ _ hdst
          · show List.map _ _ = _
            rw [List.map_flatten, List.map_replicate, List.map_map]
            congr 2
            simp [Function.comp_def, A1.conc]
          · intro k hk
            obtain ⟨c, hc', hk'⟩ := List.mem_flatMap.1 hk
            obtain ⟨y, hy, hc'⟩ := List.mem_flatten.1 hc'
            rw [(List.mem_replicate.1 hy).2] at hc'
            obtain ⟨v, hv, rfl⟩ := List.mem_map.1 hc'
            simp [A1.gh] at hk'
        · split at h
          · rename_i n m
            replace h := Rd.chk_val h
            obtain ⟨hb, h⟩ := h
            simp only [Bool.and_eq_true, beq_iff_eq, bne_iff_ne, decide_eq_true_eq] at hb
            obtain ⟨⟨⟨b1, b3⟩, b5⟩, b6⟩ := hb
            subst b1
            cases h
            obtain ⟨i, e1, e2, e3⟩ := hc _ (List.mem_singleton.2 rfl)
            refine sound_makeSlice hti hg ho hT he (by rw [(opnd_val hg hx).1]; exact e1) (by rw [(opnd_val hg hy).1]; exact e1) e2 b3 b5 b6 hfresh hng (rc := .all nv) ?_ (fun k hk => by simp [RC.gh] at hk) _ _ hdst
            show (ρ nv).cells.toList = _
            rw [e3]; rfl
          · cases h
        · cases h
      · cases h
    · cases h
  · -- slice
    replace h := Rd.bind_val h
    obtain ⟨v, hv, h⟩ := h
    replace h := Rd.bind_val h
    obtain ⟨l, hl, h⟩ := h
    replace h := Rd.bind_val h
    obtain ⟨hh, hhi, h⟩ := h
    replace h := Rd.bind_val h
    obtain ⟨m, hm, h⟩ := h
    exact sound_slice hti hg ho hv hl hhi hm hfresh hng h hc hdst
  · -- fieldAddr
    replace h := Rd.bind_val h
    obtain ⟨v, hv, h⟩ := h
    split at h
    · rename_i fs s1 s2 s3 k off hT
      split at h
      · rename_i d ty hf
        split at h
        · rename_i t ht
          replace h := Rd.chk_val h
          obtain ⟨hp, h⟩ := h
          cases h
          exact sound_fieldAddr hti hg ho hv hT rfl hf ht (by simpa using hp) hdst
        · cases h
      · cases h
    · cases h
  · -- indexAddr
    replace h := Rd.bind_val h
    obtain ⟨u, hu, h⟩ := h
    replace h := Rd.bind_val h
    obtain ⟨v, hv, h⟩ := h
    exact sound_indexAddr hti hg ho hu hv h hc hdst
  · -- index
    replace h := Rd.bind_val h
    obtain ⟨u, hu, h⟩ := h
    replace h := Rd.bind_val h
    obtain ⟨v, hv, h⟩ := h
    replace h := Rd.chk_val h
    obtain ⟨hp, h⟩ := h
    simp only [Bool.and_eq_true] at hp
    cases h
    refine sound_ext hg (hc _ (List.mem_singleton.2 rfl)) ?_ hdst
    simp [execOp, ho, (opnd_val hg hu).1, (opnd_val hg hv).1, AV.conc_pure hp.1, AV.conc_pure hp.2, argEval]
  · -- field
    replace h := Rd.bind_val h
    obtain ⟨u, hu, h⟩ := h
    replace h := Rd.chk_val h
    obtain ⟨hp, h⟩ := h
    cases h
    refine sound_ext hg (hc _ (List.mem_singleton.2 rfl)) ?_ hdst
    simp [execOp, ho, (opnd_val hg hu).1, AV.conc_pure hp, argEval]
  · -- extract
    replace h := Rd.bind_val h
    obtain ⟨v, hv, h⟩ := h
    exact sound_extract hg ho hv h hc hdst
  · -- call
    replace h := Rd.bind_val h
    obtain ⟨vs, hv, h⟩ := h
    exact sound_call hG hM hA hg ho hv hfresh hng h hc hdst
  · -- len
    rename_i args argTypes
    replace h := Rd.bind_val h
    obtain ⟨vs, hv, h⟩ := h
    have hx1 := (opndl_val hg hv).1
    have one : ∀ v, vs = [v] → ∃ x, args = #[x] ∧ (opnd x).val S = some v := by
      intro v hvs
      rw [hvs] at hv hx1
      have hl : args.toList.length = 1 := by have := congrArg List.length hx1; simpa using this
      obtain ⟨x, hx⟩ : ∃ x, args.toList = [x] := by
        cases hq : args.toList with
        | nil => rw [hq] at hl; cases hl
        | cons x r => cases r with
          | nil => exact ⟨x, rfl⟩
          | cons y r => rw [hq] at hl; simp at hl
      refine ⟨x, by apply Array.ext'; exact hx, ?_⟩
      rw [hx] at hv
      obtain ⟨v', hv', hv⟩ := Rd.val_bind_some hv
      obtain ⟨vs', hvs', hv⟩ := Rd.val_bind_some hv
      cases hvs'
      cases hv
      exact hv'
    split at h
    · rename_i k
      split at h
      · rename_i T hTs
        split at h
        · rename_i el s1 s2 s3 hT
          obtain ⟨_, _, _, _, _, _, _, _, _, ⟨hu, _⟩, _⟩ := hti T _ hT
          obtain ⟨x, hx, hxv⟩ := one _ rfl
          have hTs' : argTypes = #[T] := by apply Array.ext'; exact hTs
          exact sound_len hg hu (by rw [ho, hx, hTs']) hxv h hc hdst
        · cases h
      · cases h
    · split at h
      · rename_i T hTs
        split at h
        · rename_i el s1 s2 s3 hT
          obtain ⟨_, _, _, _, _, _, _, _, _, ⟨hu, _⟩, _⟩ := hti T _ hT
          obtain ⟨x, hx, hxv⟩ := one _ rfl
          have hTs' : argTypes = #[T] := by apply Array.ext'; exact hTs
          exact sound_len hg hu (by rw [ho, hx, hTs']) hxv h hc hdst
        · cases h
      · cases h
    · rename_i a1 _ _
      replace h := Rd.chk_val h
      obtain ⟨hp, h⟩ := h
      cases h
      obtain ⟨x, hx, hxv⟩ := one _ rfl
      refine sound_ext hg (hc _ (List.mem_singleton.2 rfl)) ?_ hdst
      have e : a.eval x = a1.den ρ := by rw [(opnd_val hg hxv).1]; exact A1.conc_pure hp σ ρ
      simp [execOp, ho, hx, resolve, e, argEval, AV.den, AT.den, invoke, builtin, Builtin.len_]
    · cases h
  · -- append
    replace h := Rd.bind_val h
    obtain ⟨vs, hv, h⟩ := h
    split at h
    · exact sound_append hti hg ho hv hfresh hng h hc hdst
    · cases h
  · cases h
end
end Go.Sx

/-
  A region's run, checked: whatever order it is drawn in, the state behind it is the one that the text's order leads to.
-/
namespace Go.Sx

def Loc.eqb : Loc → Loc → Bool
  | .s a, .s b => a == b
  | .r a, .r b => a == b
  | .w a, .w b => a == b
  | _, _ => false
theorem Loc.eqb_self (l : Loc) : l.eqb l = true := by cases l <;> simp [Loc.eqb]
def disj (a b : List Loc) : Bool := a.all fun l => b.all fun l' => !l.eqb l'
theorem disj_not {a b : List Loc} (h : disj a b = true) {l : Loc} (hl : l ∈ a) : l ∉ b := by
  intro hb
  have := List.all_eq_true.1 (List.all_eq_true.1 h l hl) l hb
  rw [Loc.eqb_self] at this
  cases this

def maskOf (ms : List Nat) (es : List Edge) : Nat := es.foldl (fun m e => if Region.binds .any e then m ||| (ms.getD e.on 0 ||| 2 ^ e.on) else m) 0
def masks : List Oper → List Nat → List Nat
  | [], acc => acc
  | o :: r, acc => masks r (acc ++ [maskOf acc o.after.toList])

def edgesOk (ms : List Nat) : Nat → List Oper → Bool
  | _, [] => true
  | j, o :: r => (o.after.toList.all fun e => !Region.binds .any e || decide (e.on < j)) && ms.getD j 0 == maskOf ms o.after.toList && edgesOk ms (j + 1) r

def indGo (ms : List Nat) : Nat → List Inf → Bool
  | _, [] => true
  | i, x :: r => indRow ms i x (i + 1) r && indGo ms (i + 1) r
where
  indRow (ms : List Nat) (i : Nat) (x : Inf) : Nat → List Inf → Bool
    | _, [] => true
    | j, y :: r => ((ms.getD j 0).testBit i || (disj x.d.writes y.rd && disj x.d.writes y.d.writes && disj y.d.writes x.rd)) && indRow ms i x (j + 1) r

def mentGo (ms : List Nat) (gb : Nat) : Nat → List Inf → Bool
  | _, [] => true
  | i, x :: r => (x.d.ment.all fun k => decide (k < gb) || (let i' := (k - gb) / 4; i' == i || (ms.getD i 0).testBit i')) && mentGo ms gb (i + 1) r

def mentPl (gb : Nat) : Nat → List Inf → Bool
  | _, [] => true
  | i, x :: r => (x.d.ment.all fun k => decide (k < gb + 4 * i + 4)) && mentPl gb (i + 1) r

def rgOk (draw : Bool) (ops : List Oper) (L : List Inf) (gb : Nat) : Bool :=
  if draw then
    let ms := masks ops []
    edgesOk ms 0 ops && indGo ms 0 L && mentGo ms gb 0 L
  else mentPl gb 0 L

def rgStep (C : Cfg) (ops : Array Oper) (draw : Bool) (gb : Nat) (S : St) (nv : Nat) : Option (List Cmd × St × Nat) :=
  match rgRun C ops gb ops.toList 0 S nv with
  | none => none
  | some L => if rgOk draw ops.toList L gb then some (L.flatMap (fun x => x.d.cm), L.foldl (fun S x => S.app x.d) S, L.foldl (fun n x => n + x.d.dv) nv) else none

theorem testBit_maskOf {ms : List Nat} {es : List Edge} {i : Nat} (h : (maskOf ms es).testBit i = true) : ∃ e ∈ es, Region.binds .any e = true ∧ (e.on = i ∨ (ms.getD e.on 0).testBit i = true) := by
  have key : ∀ (es : List Edge) (m : Nat), (es.foldl (fun m e => if Region.binds .any e then m ||| (ms.getD e.on 0 ||| 2 ^ e.on) else m) m).testBit i = true →
      m.testBit i = true ∨ ∃ e ∈ es, Region.binds .any e = true ∧ (e.on = i ∨ (ms.getD e.on 0).testBit i = true) := by
    intro es
    induction es with
    | nil => intro m h; exact .inl h
    | cons e es ih =>
      intro m h
      rcases ih _ h with h | ⟨e', he', h'⟩
      · replace h : (if Region.binds .any e then m ||| (ms.getD e.on 0 ||| 2 ^ e.on) else m).testBit i = true := h
        split at h
        · rename_i hb
          rw [Nat.testBit_or, Nat.testBit_or, Nat.testBit_two_pow] at h
          simp only [Bool.or_eq_true, decide_eq_true_eq] at h
          rcases h with h | h | h
          · exact .inl h
          · exact .inr ⟨e, by simp, hb, .inr h⟩
          · exact .inr ⟨e, by simp, hb, .inl h⟩
        · exact .inl h
      · exact .inr ⟨e', by simp [he'], h'⟩
  rcases key es 0 h with h | h
  · simp at h
  · exact h

theorem edgesOk_get {ms : List Nat} : ∀ {os : List Oper} {j0 : Nat}, edgesOk ms j0 os = true → ∀ k o, os[k]? = some o →
    (∀ e ∈ o.after.toList, Region.binds .any e = true → e.on < j0 + k) ∧ ms.getD (j0 + k) 0 = maskOf ms o.after.toList := by
  intro os
  induction os with
  | nil => intro j0 _ k o h; simp at h
  | cons x os ih =>
    intro j0 h k o hk
    simp only [edgesOk, Bool.and_eq_true] at h
    cases k with
    | zero =>
      simp at hk; subst hk
      refine ⟨fun e he hb => ?_, by simpa using h.1.2⟩
      have := List.all_eq_true.1 h.1.1 e he
      simpa [hb] using this
    | succ k =>
      have := ih h.2 k o (by simpa using hk)
      rwa [show j0 + 1 + k = j0 + (k + 1) by omega] at this

theorem indRow_get {ms : List Nat} {i : Nat} {x : Inf} : ∀ {L : List Inf} {j0 : Nat}, indGo.indRow ms i x j0 L = true → ∀ k y, L[k]? = some y →
    (ms.getD (j0 + k) 0).testBit i = true ∨ (disj x.d.writes y.rd = true ∧ disj x.d.writes y.d.writes = true ∧ disj y.d.writes x.rd = true) := by
  intro L
  induction L with
  | nil => intro j0 _ k y h; simp at h
  | cons z L ih =>
    intro j0 h k y hk
    simp only [indGo.indRow, Bool.and_eq_true, Bool.or_eq_true] at h
    cases k with
    | zero =>
      simp at hk; subst hk
      rcases h.1 with h | h
      · exact .inl h
      · exact .inr ⟨h.1.1, h.1.2, h.2⟩
    | succ k =>
      have := ih h.2 k y (by simpa using hk)
      rwa [show j0 + 1 + k = j0 + (k + 1) by omega] at this

theorem indGo_get {ms : List Nat} : ∀ {L : List Inf} {i0 : Nat}, indGo ms i0 L = true → ∀ i j x y, i < j → L[i]? = some x → L[j]? = some y →
    (ms.getD (i0 + j) 0).testBit (i0 + i) = true ∨ (disj x.d.writes y.rd = true ∧ disj x.d.writes y.d.writes = true ∧ disj y.d.writes x.rd = true) := by
  intro L
  induction L with
  | nil => intro i0 _ i j x y _ h; simp at h
  | cons z L ih =>
    intro i0 h i j x y hij hi hj
    simp only [indGo, Bool.and_eq_true] at h
    cases j with
    | zero => omega
    | succ j =>
      cases i with
      | zero =>
        simp at hi; subst hi
        have := indRow_get h.1 j y (by simpa using hj)
        rwa [show i0 + 1 + j = i0 + (j + 1) by omega] at this
      | succ i =>
        have := ih h.2 i j x y (by omega) (by simpa using hi) (by simpa using hj)
        rwa [show i0 + 1 + j = i0 + (j + 1) by omega, show i0 + 1 + i = i0 + (i + 1) by omega] at this

theorem mentGo_get {ms : List Nat} {gb : Nat} : ∀ {L : List Inf} {i0 : Nat}, mentGo ms gb i0 L = true → ∀ i x, L[i]? = some x → ∀ k ∈ x.d.ment,
    k < gb ∨ (gb ≤ k ∧ ((k - gb) / 4 = i0 + i ∨ (ms.getD (i0 + i) 0).testBit ((k - gb) / 4) = true)) := by
  intro L
  induction L with
  | nil => intro i0 _ i x h; simp at h
  | cons z L ih =>
    intro i0 h i x hi k hk
    simp only [mentGo, Bool.and_eq_true] at h
    cases i with
    | zero =>
      simp at hi; subst hi
      have := List.all_eq_true.1 h.1 k hk
      simp only [Bool.or_eq_true, decide_eq_true_eq, beq_iff_eq] at this
      rcases Nat.lt_or_ge k gb with hl | hl
      · exact .inl hl
      · right
        refine ⟨hl, ?_⟩
        rcases this with h | h | h
        · omega
        · exact .inl h
        · exact .inr h
    | succ i =>
      have := ih h.2 i x (by simpa using hi) k hk
      rwa [show i0 + 1 + i = i0 + (i + 1) by omega] at this

theorem mentPl_get {gb : Nat} : ∀ {L : List Inf} {i0 : Nat}, mentPl gb i0 L = true → ∀ i x, L[i]? = some x → ∀ k ∈ x.d.ment, k < gb + 4 * (i0 + i) + 4 := by
  intro L
  induction L with
  | nil => intro i0 _ i x h; simp at h
  | cons z L ih =>
    intro i0 h i x hi k hk
    simp only [mentPl, Bool.and_eq_true] at h
    cases i with
    | zero =>
      simp at hi; subst hi
      have := List.all_eq_true.1 h.1 k hk
      simpa using this
    | succ i =>
      have := ih h.2 i x (by simpa using hi) k hk
      rwa [show i0 + 1 + i = i0 + (i + 1) by omega] at this

theorem rgRun_get {C : Cfg} {ops : Array Oper} {gb : Nat} : ∀ {os : List Oper} {i0 : Nat} {S : St} {nv : Nat} {L : List Inf}, rgRun C ops gb os i0 S nv = some L →
    L.length = os.length ∧ ∀ j o x, os[j]? = some o → L[j]? = some x →
      (dOper C ops x.nv (gb + 4 * (i0 + j)) o).val ((L.take j).foldl (fun S x => S.app x.d) S) = some x.d ∧ (dOper C ops x.nv (gb + 4 * (i0 + j)) o).reads ((L.take j).foldl (fun S x => S.app x.d) S) = x.rd := by
  intro os
  induction os with
  | nil => intro i0 S nv L h; simp [rgRun] at h; subst h; simp
  | cons o os ih =>
    intro i0 S nv L h
    simp only [rgRun] at h
    split at h
    · cases h
    · rename_i d hd
      split at h
      · cases h
      · rename_i L' hL
        cases h
        obtain ⟨h1, h2⟩ := ih hL
        refine ⟨by simp [h1], fun j o' x hj hx => ?_⟩
        cases j with
        | zero =>
          simp at hj hx
          subst hj; subst hx
          exact ⟨by simpa using hd, by simp⟩
        | succ j =>
          have := h2 j o' x (by simpa using hj) (by simpa using hx)
          rw [show i0 + 1 + j = i0 + (j + 1) by omega] at this
          simpa using this

theorem SD_foldl (S : St) (L : List Inf) : ∀ j, j ≤ L.length → SD S (fun i => (L.getD i default).d) (fun _ => true) j = (L.take j).foldl (fun S x => S.app x.d) S := by
  intro j
  induction j with
  | zero => intro _; rfl
  | succ j ih =>
    intro h
    simp only [SD, if_true]
    rw [ih (by omega), List.take_succ_eq_append_getElem (by omega), List.foldl_append]
    simp [List.getD_eq_getElem?_getD, List.getElem?_eq_getElem (show j < L.length by omega)]

section
variable {P : Program} {G : Glb} {C : Cfg} {w0 : World} {M : Ms} {S : St} {σ : Nat → GV} {ρ : Nat → Value} {a : Act} {w : World}

theorem Gam.undef_step {N : Nat} (hg : Gam w0 M N S σ ρ a w) {d : Dl} (hv : d.v = .at (.one (.lit undef))) (hrw : d.rw = []) (hwr : d.wr = []) (hd : ∀ t, d.dst = some t → t < N) :
    Gam w0 M N (S.app d) σ ρ (a.put d.dst undef) w := by
  have := hg.pure_step hrw hwr hd (by rw [hv]; trivial)
  rwa [hv] at this

theorem dOper_sound {N : Nat} (hN : N = C.N) (hti : TIok P C.ti) (hG : G.ok w0) (hM : ∀ k, M.m k → G.ng ≤ k) (hA : ∀ k, k < G.ng → M.a k) {ops : Array Oper} {Q : Exit → Act → World → Prop} (hg : Gam w0 M N S σ ρ a w) {j : Nat} {o : Oper} (hj : ops[j]? = some o) {nv ng : Nat} (hfresh : ¬ S.ment ng) (hng : 10000 ≤ ng) {d : Dl} (h : (dOper C ops nv ng o).val S = some d)
    (hc : ∀ c ∈ d.cm, Cmd.holds P G ρ c) (K : Act → World → Prop) (hK : ∀ σ' a' w', Gam w0 M N (S.app d) σ' ρ a' w' → K a' w') : wpOp P ops Q j K a w := by
  unfold wpOp
  rw [hj]
  simp only []
  unfold dOper at h
  obtain ⟨hdst, h⟩ := Rd.chk_val h
  have hdst' : ∀ t, o.dst = some t → t < N := fun t ht => by
    rw [ht] at hdst; rw [hN]; simpa [dstOk] using hdst
  have run : ∀ {out : Out}, (dOp C nv ng o.op).val S = some out → (∀ c ∈ out.cm, Cmd.holds P G ρ c) → S.app (out.dl o.dst) = S.app d → o.wp P a w K Q := by
    intro out ho hc hd
    exact dOp_sound hti hG hM hA hg hfresh hng ho hc hdst' K Q fun a' w' ⟨σ', hg'⟩ => hK σ' a' w' (by rw [← hd]; exact hg')
  split at h
  · rename_i hgd
    rw [if_pos (by simp [Region.wanted, hgd])]
    obtain ⟨out, ho, h⟩ := Rd.bind_val h
    cases h
    exact .inl (run ho hc rfl)
  · rename_i g want hgd
    split at h
    · cases h
    · rename_i t ht
      have hy : ∀ b, a.tmps[t]? = some (.bool b) → yielded ops a.tmps g = some b := by
        intro b hb
        simp only [yielded, ht, Option.bind_some, hb]
      simp only [Rd.val] at h
      split at h
      · rename_i b hs
        have h1 := (hg.slot t _ hs).1
        have hy := hy b h1
        split at h
        · rename_i hbw
          rw [if_pos (by simp only [Region.wanted, hgd, hy]; simpa using hbw)]
          obtain ⟨out, ho, h⟩ := Rd.bind_val h
          cases h
          exact .inl (run ho hc rfl)
        · rename_i hbw
          rw [if_neg (by simp only [Region.wanted, hgd, hy]; simpa using hbw)]
          cases h
          exact hK σ _ _ (hg.undef_step rfl rfl rfl hdst')
      · rename_i vs hs
        have h1 := (hg.slot t _ hs).1
        have hy : yielded ops a.tmps g = none := by
          simp only [yielded, ht, Option.bind_some, h1, AV.conc, AT.conc, A1.conc]
        rw [if_neg (by simp only [Region.wanted, hgd, hy]; simp)]
        cases h
        exact hK σ _ _ (hg.undef_step rfl rfl rfl hdst')
      · rename_i n hs
        have h1 := (hg.slot t _ hs).1
        split at h
        · rename_i b hdec
          split at h
          · rename_i hbw
            obtain ⟨out, ho, h⟩ := Rd.bind_val h
            cases h
            have hb : ρ n = .bool b := hc (.isBool n b) (by simp)
            have hy := hy b (by rw [h1]; simp only [AV.conc, AT.conc, A1.conc, hb])
            rw [if_pos (by simp only [Region.wanted, hgd, hy]; simpa using hbw)]
            exact .inl (run ho (fun c hcm => hc c (List.mem_cons_of_mem _ hcm)) rfl)
          · rename_i hbw
            cases h
            have hb : ρ n = .bool b := hc (.isBool n b) (by simp)
            have hy := hy b (by rw [h1]; simp only [AV.conc, AT.conc, A1.conc, hb])
            rw [if_neg (by simp only [Region.wanted, hgd, hy]; simpa using hbw)]
            exact hK σ _ _ (hg.undef_step rfl rfl rfl hdst')
        · cases h
      · cases h

theorem rgStep_sound {N : Nat} (hN : N = C.N) (hmx : P.follows .mixedOrders = true) (hti : TIok P C.ti) (hG : G.ok w0) (hM : ∀ k, M.m k → G.ng ≤ k) (hA : ∀ k, k < G.ng → M.a k) {id : Nat} {ops : Array Oper} {draw : Bool} {Q : Exit → Act → World → Prop} {gb nv : Nat} (hgb : 10000 ≤ gb) {cs : List Cmd} {S' : St} {nv' : Nat}
    (h : rgStep C ops draw gb S nv = some (cs, S', nv')) (hc : ∀ c ∈ cs, Cmd.holds P G ρ c) (h0 : ∀ k, S.ment k → k < gb) (hg : Gam w0 M N S σ ρ a w)
    (hQ : ∀ σ a w, Gam w0 M N S' σ ρ a w → Q .normal a w) : (Code.region id ops draw).wp P Q a w := by
  unfold rgStep at h
  split at h
  · cases h
  · rename_i L hL
    split at h
    · rename_i hok
      cases h
      obtain ⟨hlen, hget⟩ := rgRun_get hL
      have hlen' : L.length = ops.size := by simpa using hlen
      let f : Nat → Dl := fun i => (L.getD i default).d
      let ms : Nat → Rd Dl := fun j => dOper C ops (L.getD j default).nv (gb + 4 * j) (ops.toList.getD j default)
      have hLg : ∀ j, j < ops.size → L[j]? = some (L.getD j default) := fun j hj => by
        simp [List.getD_eq_getElem?_getD, List.getElem?_eq_getElem (show j < L.length by omega)]
      have hOg : ∀ j, j < ops.size → ops[j]? = some (ops.toList.getD j default) := fun j hj => by
        simp [List.getD_eq_getElem?_getD, hj]
      have hOg' : ∀ j, j < ops.size → ops.toList[j]? = some (ops.toList.getD j default) := fun j hj => by
        have := hOg j hj
        simpa using this
      have htext : ∀ j, j < ops.size → (ms j).val (SD S f (fun _ => true) j) = some (f j) ∧ (ms j).reads (SD S f (fun _ => true) j) = (L.getD j default).rd := by
        intro j hj
        rw [SD_foldl S L j (by omega)]
        have := hget j _ _ (hOg' j hj) (hLg j hj)
        rw [Nat.zero_add] at this
        exact this
      have hfin : SD S f (fun _ => true) ops.size = L.foldl (fun S x => S.app x.d) S := by
        rw [SD_foldl S L _ (by omega), List.take_of_length_le (by omega)]
      have hcf : ∀ j, j < ops.size → ∀ c ∈ (f j).cm, Cmd.holds P G ρ c := fun j hj c hcm =>
        hc c (List.mem_flatMap.2 ⟨L.getD j default, List.mem_of_getElem? (hLg j hj), hcm⟩)
      have hsound : ∀ (Q : Exit → Act → World → Prop) j, j < ops.size → ∀ S σ a w, (ms j).val S = some (f j) → (∀ k, gb + 4 * j ≤ k → k < gb + 4 * j + 4 → ¬ S.ment k) → Gam w0 M N S σ ρ a w →
          ∀ K : Act → World → Prop, (∀ σ' a' w', Gam w0 M N (S.app (f j)) σ' ρ a' w' → K a' w') → wpOp P ops Q j K a w := by
        intro Q j hj S σ a w hv hm hg K hK
        exact dOper_sound hN hti hG hM hA hg (hOg j hj) (hm _ (Nat.le_refl _) (by omega)) (by omega) hv (hcf j hj) K hK
      cases draw with
      | false =>
        simp only [rgOk, Bool.false_eq_true, if_false] at hok
        refine wp_region ?_
        rw [List.range_eq_range']
        refine region_text (f := f) (ms := ms) rfl (fun i hi k hk => ?_) (fun j hj => (htext j hj).1) h0 (hsound Q) (fun σ a w hg => hQ σ a w (by rw [← hfin]; exact hg)) ops.size 0 σ a w (by omega) hg
        have := mentPl_get hok i _ (hLg i hi) k hk
        simpa using this
      | true =>
        simp only [rgOk, if_true, Bool.and_eq_true] at hok
        obtain ⟨⟨hE, hI⟩, hMn⟩ := hok
        generalize masks ops.toList [] = mk at hE hI hMn
        refine wp_region_any hmx ?_
        refine region_any (gb := gb) (f := f) (rd := fun j => (L.getD j default).rd) (anc := fun j i => decide (j < ops.size) && (mk.getD j 0).testBit i) (ms := ms) ?_ htext h0 (hsound Q) (fun σ a w hg => hQ σ a w (by rw [← hfin]; exact hg)) ops.size _ σ a _ (by simp) ?_ ?_ ?_
        · refine ⟨rfl, fun j o hj e he hb => ?_, fun j o i hj hi => ?_, fun i j hij hj hn => ?_, fun i hi k hk => ?_⟩
          · have hj' : ops.toList[j]? = some o := by simpa using hj
            have := (edgesOk_get hE j o hj').1 e (by simpa using he) hb
            omega
          · have hj' : ops.toList[j]? = some o := by simpa using hj
            simp only [Bool.and_eq_true, decide_eq_true_eq] at hi
            have hm := (edgesOk_get hE j o hj').2
            rw [Nat.zero_add] at hm
            rw [hm] at hi
            obtain ⟨e, he, hb, h⟩ := testBit_maskOf hi.2
            have hlt := (edgesOk_get hE j o hj').1 e he hb
            refine ⟨e, by simpa using he, hb, h.imp (fun h => h) fun h => ?_⟩
            simp only [Bool.and_eq_true, decide_eq_true_eq]
            exact ⟨by omega, h⟩
          · have := indGo_get hI i j _ _ hij (hLg i (by omega)) (hLg j hj)
            simp only [Nat.zero_add] at this
            rcases this with h | ⟨h1, h2, h3⟩
            · rw [h] at hn; simp [hj] at hn
            · exact ⟨fun l hl => ⟨disj_not h1 hl, disj_not h2 hl⟩, fun l hl => disj_not h3 hl⟩
          · have := mentGo_get hMn i _ (hLg i hi) k hk
            simp only [Nat.zero_add] at this
            rcases this with h | ⟨h1, h2⟩
            · exact .inl h
            · refine .inr ⟨(k - gb) / 4, h2.imp (fun h => h) (fun h => ?_), by omega, by omega⟩
              simp only [Bool.and_eq_true, decide_eq_true_eq]
              exact ⟨hi, h⟩
        · intro j hj
          simp [Array.getD] at hj
        · have hz : SD S f (fun i => (Array.replicate ops.size false).getD i false) ops.size = S := by
            have : ∀ n, SD S f (fun i => (Array.replicate ops.size false).getD i false) n = S := by
              intro n
              induction n with
              | zero => rfl
              | succ n ih =>
                simp only [SD]
                rw [ih, if_neg]
                simp [Array.getD]
            exact this _
          rw [hz]
          have hx : Ext w w.drew := Ext.drew w
          have := hg.ext_step (d := { dst := none, v := .at (.one (.lit undef)) }) rfl (by simp) (by simp) trivial hx
          have he : S.app { dst := none, v := .at (.one (.lit undef)) } = S := rfl
          rw [he] at this
          exact this
        · have := List.countP_le_length (p := fun i => !(Array.replicate ops.size false).getD i false) (l := List.range ops.size)
          simpa using this
    · cases h

theorem foldl_app_ment {L : List Inf} {S : St} {k : Nat} (h : (L.foldl (fun S x => S.app x.d) S).ment k) : S.ment k ∨ ∃ (i : Nat) (x : Inf), L[i]? = some x ∧ k ∈ x.d.ment := by
  induction L generalizing S with
  | nil => exact .inl h
  | cons y L ih =>
    rcases ih h with h | ⟨i, x, hx, hk⟩
    · rcases St.app_ment h with h | h
      · exact .inl h
      · exact .inr ⟨0, y, by simp, h⟩
    · exact .inr ⟨i + 1, x, by simpa using hx, hk⟩

theorem rgStep_ment {ops : Array Oper} {draw : Bool} {gb nv : Nat} {cs : List Cmd} {S' : St} {nv' : Nat}
    (h : rgStep C ops draw gb S nv = some (cs, S', nv')) (h0 : ∀ k, S.ment k → k < gb) : ∀ k, S'.ment k → k < gb + 4 * ops.size := by
  unfold rgStep at h
  split at h
  · cases h
  · rename_i L hL
    split at h
    · rename_i hok
      cases h
      obtain ⟨hlen, _⟩ := rgRun_get hL
      have hlen' : L.length = ops.size := by simpa using hlen
      intro k hk
      rcases foldl_app_ment hk with h | ⟨i, x, hx, hkx⟩
      · have := h0 k h; omega
      · have hi : i < L.length := (List.getElem?_eq_some_iff.1 hx).1
        cases draw with
        | false =>
          simp only [rgOk, Bool.false_eq_true, if_false] at hok
          have := mentPl_get hok i x hx k hkx
          omega
        | true =>
          simp only [rgOk, if_true, Bool.and_eq_true] at hok
          obtain ⟨⟨hE, hI⟩, hMn⟩ := hok
          have := mentGo_get hMn i x hx k hkx
          rcases this with h | ⟨h1, h2 | h2⟩
          · omega
          · omega
          · rw [Nat.zero_add] at h2
            obtain ⟨o, ho⟩ : ∃ o, ops.toList[i]? = some o := ⟨ops.toList[i]'(by simpa using (by omega : i < ops.size)), List.getElem?_eq_getElem _⟩
            have hm := edgesOk_get hE i o ho
            rw [Nat.zero_add] at hm
            -- a bit of a mask is an operation before
            have hb : ∀ n, n ≤ ops.size → ∀ j, j < n → ∀ b, ((masks ops.toList []).getD j 0).testBit b = true → b < j := by
              intro n
              induction n with
              | zero => intro _ j hj; omega
              | succ n ih =>
                intro hn j hj b hb
                by_cases hjn : j < n
                · exact ih (by omega) j hjn b hb
                · obtain ⟨o', ho'⟩ : ∃ o, ops.toList[j]? = some o := ⟨ops.toList[j]'(by simpa using (by omega : j < ops.size)), List.getElem?_eq_getElem _⟩
                  have hm' := edgesOk_get hE j o' ho'
                  rw [Nat.zero_add] at hm'
                  rw [hm'.2] at hb
                  obtain ⟨e, he, hbd, h | h⟩ := testBit_maskOf hb
                  · have := hm'.1 e he hbd; omega
                  · have hlt := hm'.1 e he hbd
                    have := ih (by omega) e.on (by omega) b h
                    omega
            have := hb ops.size (Nat.le_refl _) i (by omega) _ h2
            omega
    · cases h
end
end Go.Sx

/-
  A piece of code: run up to its end, to a way out, or to a loop.
-/
namespace Go.Sx

def ddp {α : Type} (seen : List Nat) : List (Nat × α) → List (Nat × α)
  | [] => []
  | x :: r => if seen.elem x.1 then ddp seen r else x :: ddp (x.1 :: seen) r

theorem lk_ddp {α : Type} : ∀ (l : List (Nat × α)) (seen : List Nat) (t : Nat), t ∉ seen → lk (ddp seen l) t = lk l t := by
  intro l
  induction l with
  | nil => intro _ _ _; rfl
  | cons x l ih =>
    intro seen t ht
    obtain ⟨k, v⟩ := x
    simp only [ddp]
    split
    · rename_i h
      rw [ih seen t ht]
      simp only [lk]
      rw [if_neg]
      rintro rfl
      exact ht (by simpa using h)
    · simp only [lk]
      split
      · rfl
      · rename_i hne
        exact ih _ t (by simp only [List.mem_cons, not_or]; exact ⟨fun e => hne e.symm, ht⟩)

def St.norm (S : St) : St where
  sl := ddp [] S.sl
  rw := (ddp [] S.rw).filter (fun x => x.2.isSome)
  wr := (ddp [] S.wr).filter (fun x => x.2)

theorem ddp_mem {α : Type} : ∀ (l : List (Nat × α)) (seen : List Nat) (x : Nat × α), x ∈ ddp seen l → x.1 ∉ seen := by
  intro l
  induction l with
  | nil => intro _ _ h; cases h
  | cons y l ih =>
    intro seen x h
    simp only [ddp] at h
    split at h
    · exact ih seen x h
    · rename_i hy
      rcases List.mem_cons.1 h with rfl | h
      · simpa using hy
      · have := ih _ x h
        simp only [List.mem_cons, not_or] at this
        exact this.2

theorem lk_filter {α : Type} (p : α → Bool) : ∀ (l : List (Nat × α)) (seen : List Nat) (t : Nat), lk ((ddp seen l).filter (fun x => p x.2)) t = (lk (ddp seen l) t).filter p := by
  intro l
  induction l with
  | nil => intro _ _; rfl
  | cons x l ih =>
    intro seen t
    obtain ⟨k, v⟩ := x
    simp only [ddp]
    split
    · exact ih seen t
    · simp only [List.filter_cons]
      split
      · rename_i hp
        simp only [lk]
        split
        · simp only [Option.filter]; rw [if_pos hp]
        · exact ih _ t
      · rename_i hp
        simp only [lk]
        split
        · rename_i hkt
          simp only [Option.filter]; rw [if_neg hp]
          rw [ih _ t, lk_none]
          · rfl
          · intro hm
            obtain ⟨y, hy, e⟩ := List.mem_map.1 hm
            have := ddp_mem _ _ y hy
            simp only [List.mem_cons, not_or] at this
            exact this.1 (by rw [e, hkt])
        · exact ih _ t

theorem St.norm_eqv (S : St) : S.Eqv S.norm where
  slot t := lk_ddp _ _ _ (by simp)
  row k := by
    simp only [St.row, St.norm]
    rw [lk_filter (fun x : Option Row => x.isSome), lk_ddp _ _ _ (by simp)]
    cases lk S.rw k with
    | none => rfl
    | some x => cases x <;> rfl
  own k := by
    simp only [St.own, St.norm]
    rw [lk_filter (fun x : Bool => x), lk_ddp _ _ _ (by simp)]
    cases lk S.wr k with
    | none => rfl
    | some x => cases x <;> rfl

theorem St.Eqv.ment {S S' : St} (h : S.Eqv S') {k : Nat} (hk : S'.ment k) : S.ment k := by
  rcases hk with ⟨t, v, h1, h2⟩ | ⟨k', r, h1, h2⟩ | h1
  · exact .inl ⟨t, v, by rw [← h.slot]; exact h1, h2⟩
  · exact .inr (.inl ⟨k', r, by rw [← h.row]; exact h1, h2⟩)
  · exact .inr (.inr (by rw [← h.own]; exact h1))

inductive Ex where
  | nor
  | exit (id : Nat)
  | ret
  deriving Inhabited
def Ex.to : Ex → Exit
  | .nor => .normal
  | .exit id => .exit id
  | .ret => .ret

inductive It where
  | c (c : Code)
  | blk (id : Nat)
  | lp (n : Nat) (c : Code)
  deriving Inhabited

inductive Fin where
  | done (e : Ex) (S : St)
  | loop (c : Code) (k : List It) (S : St)
  | rng (f : Operand) (params : Array Tmp) (assign body : Code) (k : List It) (S : St)
  deriving Inhabited
def Fin.st : Fin → St
  | .done _ S | .loop _ _ S | .rng _ _ _ _ _ S => S

/-- so many rounds of a loop at most -/
def wpU (P : Program) (Q : Exit → Act → World → Prop) (c : Code) : Nat → Act → World → Prop
  | 0, _, _ => False
  | n + 1, a, w => c.wp P (Exit.then (wpU P Q c n) Q) a w

def wpK (P : Program) (Q : Exit → Act → World → Prop) : List It → Exit → Act → World → Prop
  | [], e, a, w => Q e a w
  | .c c :: k, e, a, w => match e with
    | .normal => c.wp P (wpK P Q k) a w
    | e => wpK P Q k e a w
  | .blk id :: k, e, a, w => match e with
    | .exit id' => if id' = id then wpK P Q k .normal a w else wpK P Q k (.exit id') a w
    | e => wpK P Q k e a w
  | .lp n c :: k, e, a, w => match e with
    | .normal => wpU P (wpK P Q k) c n a w
    | e => wpK P Q k e a w

structure Ran where
  cm : List Cmd
  f : Fin
  nv : Nat
  gb : Nat
  deriving Inhabited
def Ran.pre (cs : List Cmd) (r : Ran) : Ran := { r with cm := cs ++ r.cm }

def exK (C : Cfg) : Nat → Nat → Nat → St → List It → Ex → Option Ran
  | 0, _, _, _, _, _ => none
  | _ + 1, gb, nv, S, [], e => some ⟨[], .done e S, nv, gb⟩
  | fuel + 1, gb, nv, S, .c c :: k, e =>
    match e with
    | .nor => match c with
      | .skip => exK C fuel gb nv S k .nor
      | .label _ => exK C fuel gb nv S k .nor
      | .region _ ops draw => match rgStep C ops draw gb S nv with
        | none => none
        | some (cs, S', nv') => (exK C fuel (gb + 4 * ops.size) nv' S'.norm k .nor).map (Ran.pre cs)
      | .seq a b => exK C fuel gb nv S (.c a :: .c b :: k) .nor
      | .cond x a b => match (opnd x).val S with
        | some (.at (.one (.lit (.bool true)))) => exK C fuel gb nv S (.c a :: k) .nor
        | some (.at (.one (.lit (.bool false)))) => exK C fuel gb nv S (.c b :: k) .nor
        | some (.at (.one (.var n))) => match C.dec n with
          | none => none
          | some true => (exK C fuel gb nv S (.c a :: k) .nor).map (Ran.pre [.isBool n true])
          | some false => (exK C fuel gb nv S (.c b :: k) .nor).map (Ran.pre [.isBool n false])
        | _ => none
      | .block id b => exK C fuel gb nv S (.c b :: .blk id :: k) .nor
      | .loop b => match C.un with
        | 0 => some ⟨[], .loop b k S, nv, gb⟩
        | n + 1 => exK C fuel gb nv S (.c b :: .lp n b :: k) .nor
      | .rangeFunc f ps as b => some ⟨[], .rng f ps as b k S, nv, gb⟩
      | .exit id => exK C fuel gb nv S k (.exit id)
      | .ret => exK C fuel gb nv S k .ret
      | _ => none
    | e => exK C fuel gb nv S k e
  | fuel + 1, gb, nv, S, .blk id :: k, e =>
    match e with
    | .exit id' => if id' == id then exK C fuel gb nv S k .nor else exK C fuel gb nv S k (.exit id')
    | e => exK C fuel gb nv S k e
  | fuel + 1, gb, nv, S, .lp n c :: k, e =>
    match e with
    | .nor => match n with
      | 0 => none
      | n + 1 => exK C fuel gb nv S (.c c :: .lp n c :: k) .nor
    | e => exK C fuel gb nv S k e

section
variable {P : Program} {G : Glb} {C : Cfg} {w0 : World} {M : Ms} {Q : Exit → Act → World → Prop}

def FinK (P : Program) (N : Nat) (w0 : World) (M : Ms) (Q : Exit → Act → World → Prop) (ρ : Nat → Value) : Fin → Prop
  | .done e S => ∀ σ a w, Gam w0 M N S σ ρ a w → Q e.to a w
  | .loop c k S => ∀ σ a w, Gam w0 M N S σ ρ a w → (Code.loop c).wp P (wpK P Q k) a w
  | .rng f ps as b k S => ∀ σ a w, Gam w0 M N S σ ρ a w → (Code.rangeFunc f ps as b).wp P (wpK P Q k) a w

theorem wpK_other {k : List It} {c : Code} {e : Ex} (he : e ≠ .nor) {a w} (h : wpK P Q k e.to a w) : wpK P Q (.c c :: k) e.to a w := by
  cases e with
  | nor => exact absurd rfl he
  | exit id => exact h
  | ret => exact h

theorem wp_of_wpU {c : Code} {n : Nat} {a : Act} {w : World} (h : wpU P Q c n a w) : (Code.loop c).wp P Q a w := by
  classical
  have hmin : ∀ a w, (∃ n, wpU P Q c n a w) → ∃ n, wpU P Q c n a w ∧ ∀ m, wpU P Q c m a w → n ≤ m := by
    intro a w ⟨n, hn⟩
    induction n using Nat.strongRecOn with
    | _ n ih =>
      by_cases h : ∃ m, m < n ∧ wpU P Q c m a w
      · obtain ⟨m, hm, hI⟩ := h; exact ih m hm hI
      · exact ⟨n, hn, fun m hI => Nat.le_of_not_lt fun hlt => h ⟨m, hlt, hI⟩⟩
  refine wp_loop (fun a w => ∃ n, wpU P Q c n a w) (fun a w => if h : ∃ n, wpU P Q c n a w then Classical.choose (hmin a w h) else 0) ⟨n, h⟩ fun a w hI => ?_
  have hs := Classical.choose_spec (hmin a w hI)
  generalize hm : Classical.choose (hmin a w hI) = m at hs
  cases m with
  | zero => exact hs.1.elim
  | succ m =>
    refine wp_mono hs.1 fun e a' w' he => ?_
    cases e <;> try exact he
    have hI2 : ∃ n, wpU P Q c n a' w' := ⟨m, he⟩
    refine ⟨hI2, ?_⟩
    simp only [dif_pos hI2, dif_pos hI]
    have := (Classical.choose_spec (hmin a' w' hI2)).2 m he
    omega

theorem exK_sound {N : Nat} (hN : N = C.N) (hmx : P.follows .mixedOrders = true) (hti : TIok P C.ti) (hG : G.ok w0) (hM : ∀ k, M.m k → G.ng ≤ k) (hA : ∀ k, k < G.ng → M.a k) {ρ : Nat → Value} :
    ∀ (fuel gb nv : Nat) (S : St) (k : List It) (e : Ex) (r : Ran), exK C fuel gb nv S k e = some r → 10000 ≤ gb → (∀ k, S.ment k → k < gb) →
      (∀ c ∈ r.cm, Cmd.holds P G ρ c) → FinK P N w0 M Q ρ r.f → ∀ σ a w, Gam w0 M N S σ ρ a w → wpK P Q k e.to a w := by
  intro fuel
  induction fuel with
  | zero => intro gb nv S k e r h; cases h
  | succ fuel ih =>
    intro gb nv S k e r h hgb h0 hc hf σ a w hg
    cases k with
    | nil =>
      simp only [exK] at h
      cases h
      exact hf σ a w hg
    | cons it k =>
      cases it with
      | blk id =>
        simp only [exK] at h
        split at h
        · rename_i id'
          split at h
          · rename_i hid
            have hid : id' = id := by simpa using hid
            show (if id' = id then _ else _)
            rw [if_pos hid]
            exact ih gb nv S k .nor r h hgb h0 hc hf σ a w hg
          · rename_i hid
            have hid : ¬ id' = id := by simpa using hid
            show (if id' = id then _ else _)
            rw [if_neg hid]
            exact ih gb nv S k (.exit id') r h hgb h0 hc hf σ a w hg
        · rename_i e' hne
          have := ih gb nv S k e r h hgb h0 hc hf σ a w hg
          cases e with
          | nor => exact this
          | ret => exact this
          | exit id' => exact absurd rfl (hne id')
      | lp n c =>
        cases e with
        | exit id => exact ih gb nv S k _ r h hgb h0 hc hf σ a w hg
        | ret => exact ih gb nv S k _ r h hgb h0 hc hf σ a w hg
        | nor =>
          cases n with
          | zero => cases h
          | succ n =>
            show c.wp P (Exit.then (wpU P (wpK P Q k) c n) (wpK P Q k)) a w
            refine wp_mono (ih gb nv S (.c c :: .lp n c :: k) .nor r h hgb h0 hc hf σ a w hg) fun e a w he => ?_
            cases e <;> exact he
      | c c =>
        cases e with
        | exit id =>
          simp only [exK] at h
          exact ih gb nv S k _ r h hgb h0 hc hf σ a w hg
        | ret =>
          simp only [exK] at h
          exact ih gb nv S k _ r h hgb h0 hc hf σ a w hg
        | nor =>
          show c.wp P (wpK P Q k) a w
          cases c with
          | skip => exact wp_skip (ih gb nv S k .nor r h hgb h0 hc hf σ a w hg)
          | label l => exact wp_label (ih gb nv S k .nor r h hgb h0 hc hf σ a w hg)
          | region id ops draw =>
            simp only [exK] at h
            split at h
            · cases h
            · rename_i cs S' nv' hr
              obtain ⟨r', hr', rfl⟩ := Option.map_eq_some_iff.1 h
              have hm := rgStep_ment hr h0
              refine rgStep_sound hN hmx hti hG hM hA hgb hr (fun c hcm => hc c (List.mem_append_left _ hcm)) h0 hg fun σ' a' w' hg' => ?_
              exact ih _ nv' S'.norm k .nor r' hr' (by omega) (fun k hk => hm k (S'.norm_eqv.ment hk)) (fun c hcm => hc c (List.mem_append_right _ hcm)) hf σ' a' w' (hg'.congr S'.norm_eqv)
          | seq x y =>
            refine wp_seq (wp_mono (ih gb nv S (.c x :: .c y :: k) .nor r h hgb h0 hc hf σ a w hg) fun e a w he => ?_)
            cases e <;> exact he
          | cond x y z =>
            simp only [exK] at h
            split at h
            · rename_i hx
              exact wp_cond (t := true) (by have := (opnd_val hg hx).1; exact this) (ih gb nv S (.c y :: k) .nor r h hgb h0 hc hf σ a w hg)
            · rename_i hx
              exact wp_cond (t := false) (by have := (opnd_val hg hx).1; exact this) (ih gb nv S (.c z :: k) .nor r h hgb h0 hc hf σ a w hg)
            · rename_i n hx
              have hxe : a.eval x = ρ n := (opnd_val hg hx).1
              split at h
              · cases h
              · obtain ⟨r', hr', rfl⟩ := Option.map_eq_some_iff.1 h
                have hb : ρ n = .bool true := hc (.isBool n true) (List.mem_append_left _ (List.mem_singleton.2 rfl))
                exact wp_cond (t := true) (by rw [hxe, hb]) (ih gb nv S (.c y :: k) .nor r' hr' hgb h0 (fun c hcm => hc c (List.mem_append_right _ hcm)) hf σ a w hg)
              · obtain ⟨r', hr', rfl⟩ := Option.map_eq_some_iff.1 h
                have hb : ρ n = .bool false := hc (.isBool n false) (List.mem_append_left _ (List.mem_singleton.2 rfl))
                exact wp_cond (t := false) (by rw [hxe, hb]) (ih gb nv S (.c z :: k) .nor r' hr' hgb h0 (fun c hcm => hc c (List.mem_append_right _ hcm)) hf σ a w hg)
            · cases h
          | block id b =>
            refine wp_block (wp_mono (ih gb nv S (.c b :: .blk id :: k) .nor r h hgb h0 hc hf σ a w hg) fun e a w he => ?_)
            cases e <;> exact he
          | loop b =>
            simp only [exK] at h
            split at h
            · cases h; exact hf σ a w hg
            · rename_i n _
              refine wp_of_wpU (n := n + 1) (wp_mono (ih gb nv S (.c b :: .lp n b :: k) .nor r h hgb h0 hc hf σ a w hg) fun e a w he => ?_)
              cases e <;> exact he
          | rangeFunc f ps as b => cases h; exact hf σ a w hg
          | exit id => exact wp_exit (ih gb nv S k (.exit id) r h hgb h0 hc hf σ a w hg)
          | ret => exact wp_ret (ih gb nv S k .ret r h hgb h0 hc hf σ a w hg)
          | scope b => cases h
          | goto l => cases h
          | refuse s => cases h

theorem exK_ment : ∀ (fuel gb nv : Nat) (S : St) (k : List It) (e : Ex) (r : Ran), exK C fuel gb nv S k e = some r → (∀ k, S.ment k → k < gb) →
      gb ≤ r.gb ∧ ∀ k, r.f.st.ment k → k < r.gb := by
  intro fuel
  induction fuel with
  | zero => intro gb nv S k e r h; cases h
  | succ fuel ih =>
    intro gb nv S k e r h h0
    cases k with
    | nil => simp only [exK] at h; cases h; exact ⟨Nat.le_refl _, h0⟩
    | cons it k =>
      cases it with
      | blk id =>
        simp only [exK] at h
        split at h
        · split at h
          · exact ih _ _ _ _ _ _ h h0
          · exact ih _ _ _ _ _ _ h h0
        · exact ih _ _ _ _ _ _ h h0
      | lp n c =>
        cases e with
        | exit id => exact ih _ _ _ _ _ _ h h0
        | ret => exact ih _ _ _ _ _ _ h h0
        | nor =>
          cases n with
          | zero => cases h
          | succ n => exact ih _ _ _ _ _ _ h h0
      | c c =>
        cases e with
        | exit id => exact ih _ _ _ _ _ _ h h0
        | ret => exact ih _ _ _ _ _ _ h h0
        | nor =>
          cases c with
          | skip => exact ih _ _ _ _ _ _ h h0
          | label l => exact ih _ _ _ _ _ _ h h0
          | region id ops draw =>
            simp only [exK] at h
            split at h
            · cases h
            · rename_i cs S' nv' hr
              obtain ⟨r', hr', rfl⟩ := Option.map_eq_some_iff.1 h
              have hm := rgStep_ment hr h0
              have := ih _ _ _ _ _ _ hr' (fun k hk => hm k (S'.norm_eqv.ment hk))
              exact ⟨by have := this.1; show gb ≤ r'.gb; omega, this.2⟩
          | seq x y => exact ih _ _ _ _ _ _ h h0
          | cond x y z =>
            simp only [exK] at h
            split at h
            · exact ih _ _ _ _ _ _ h h0
            · exact ih _ _ _ _ _ _ h h0
            · split at h
              · cases h
              · obtain ⟨r', hr', rfl⟩ := Option.map_eq_some_iff.1 h
                exact ih gb nv S _ .nor r' hr' h0
              · obtain ⟨r', hr', rfl⟩ := Option.map_eq_some_iff.1 h
                exact ih gb nv S _ .nor r' hr' h0
            · cases h
          | block id b => exact ih _ _ _ _ _ _ h h0
          | loop b =>
            simp only [exK] at h
            split at h
            · cases h; exact ⟨Nat.le_refl _, h0⟩
            · exact ih _ _ _ _ _ _ h h0
          | rangeFunc f ps as b => cases h; exact ⟨Nat.le_refl _, h0⟩
          | exit id => exact ih _ _ _ _ _ _ h h0
          | ret => exact ih _ _ _ _ _ _ h h0
          | scope b => cases h
          | goto l => cases h
          | refuse s => cases h
end
end Go.Sx

/-
  Commands one by one: each names a new value, or asks something of those named before.
-/
namespace Go.Sx

def A1.vars : A1 → List Nat
  | .var n => [n]
  | .part n _ _ => [n]
  | .ptrx _ n _ => [n]
  | _ => []
def AT.vars : AT → List Nat
  | .one a => a.vars
  | .agg l => l.flatMap A1.vars
def AV.vars : AV → List Nat
  | .at a => a.vars
  | .tup l => l.flatMap AT.vars
def RC.vars : RC → List Nat
  | .lst l => l.flatMap A1.vars
  | .all n => [n]
  | .nest n => [n]
def D1.vars : D1 → List Nat
  | .a x => x.vars
  | .rc r => r.vars
  | .nest l => l.flatMap RC.vars
def DE.vars : DE → List Nat
  | .one x => x.vars
  | .agg l => l.flatMap D1.vars
def oVars : Option A1 → List Nat
  | none => []
  | some a => a.vars

section
variable {ρ ρ' : Nat → Value}

theorem A1.den_congr {a : A1} (h : ∀ v ∈ a.vars, ρ' v = ρ v) : a.den ρ' = a.den ρ := by
  cases a <;> simp_all [A1.den, A1.vars]
theorem A1.conc_vars {a : A1} {σ} (h : ∀ v ∈ a.vars, ρ' v = ρ v) : a.conc σ ρ' = a.conc σ ρ := by
  cases a <;> simp_all [A1.conc, A1.vars]
theorem map_den_congr {l : List A1} (h : ∀ v ∈ l.flatMap A1.vars, ρ' v = ρ v) : l.map (A1.den ρ') = l.map (A1.den ρ) :=
  List.map_congr_left fun a ha => A1.den_congr fun v hv => h v (List.mem_flatMap.2 ⟨a, ha, hv⟩)
theorem map_conc_vars {l : List A1} {σ} (h : ∀ v ∈ l.flatMap A1.vars, ρ' v = ρ v) : l.map (A1.conc σ ρ') = l.map (A1.conc σ ρ) :=
  List.map_congr_left fun a ha => A1.conc_vars fun v hv => h v (List.mem_flatMap.2 ⟨a, ha, hv⟩)
theorem AT.den_congr {a : AT} (h : ∀ v ∈ a.vars, ρ' v = ρ v) : a.den ρ' = a.den ρ := by
  cases a with
  | one a => exact A1.den_congr h
  | agg l => simp only [AT.den, map_den_congr h]
theorem AT.conc_vars {a : AT} {σ} (h : ∀ v ∈ a.vars, ρ' v = ρ v) : a.conc σ ρ' = a.conc σ ρ := by
  cases a with
  | one a => exact A1.conc_vars h
  | agg l => simp only [AT.conc, map_conc_vars h]
theorem AV.den_congr {a : AV} (h : ∀ v ∈ a.vars, ρ' v = ρ v) : a.den ρ' = a.den ρ := by
  cases a with
  | «at» a => exact AT.den_congr h
  | tup l =>
    simp only [AV.den]
    rw [List.map_congr_left fun a ha => AT.den_congr fun v hv => h v (List.mem_flatMap.2 ⟨a, ha, hv⟩)]
theorem AV.conc_vars {a : AV} {σ} (h : ∀ v ∈ a.vars, ρ' v = ρ v) : a.conc σ ρ' = a.conc σ ρ := by
  cases a with
  | «at» a => exact AT.conc_vars h
  | tup l =>
    simp only [AV.conc]
    rw [List.map_congr_left fun a ha => AT.conc_vars fun v hv => h v (List.mem_flatMap.2 ⟨a, ha, hv⟩)]
theorem RC.cden_congr {r : RC} (h : ∀ v ∈ r.vars, ρ' v = ρ v) : r.cden ρ' = r.cden ρ := by
  cases r with
  | lst l => exact map_den_congr h
  | all n => simp only [RC.cden, h n (by simp [RC.vars])]
  | nest n => simp only [RC.cden, h n (by simp [RC.vars])]
theorem RC.cont_vars {r : RC} {σ} (h : ∀ v ∈ r.vars, ρ' v = ρ v) : r.cont σ ρ' = r.cont σ ρ := by
  cases r with
  | lst l => exact map_conc_vars h
  | all n => simp only [RC.cont, h n (by simp [RC.vars])]
  | nest n => simp only [RC.cont, h n (by simp [RC.vars])]
theorem D1.den_congr {d : D1} (h : ∀ v ∈ d.vars, ρ' v = ρ v) : d.den ρ' = d.den ρ := by
  cases d with
  | a x => exact A1.den_congr h
  | rc r => simp only [D1.den]; rw [RC.cden_congr h]
  | nest l =>
    simp only [D1.den]
    rw [List.map_congr_left fun r hr => by rw [RC.cden_congr fun v hv => h v (List.mem_flatMap.2 ⟨r, hr, hv⟩)]]
theorem DE.den_congr {d : DE} (h : ∀ v ∈ d.vars, ρ' v = ρ v) : d.den ρ' = d.den ρ := by
  cases d with
  | one x => exact D1.den_congr h
  | agg l =>
    simp only [DE.den]
    rw [List.map_congr_left fun r hr => D1.den_congr fun v hv => h v (List.mem_flatMap.2 ⟨r, hr, hv⟩)]
theorem AT.ok_vars {a : AT} {σ} (h : ∀ v ∈ a.vars, ρ' v = ρ v) (hk : a.ok σ ρ) : a.ok σ ρ' := by
  cases a with
  | one a => trivial
  | agg l =>
    intro c hc
    rw [A1.conc_vars fun v hv => h v (List.mem_flatMap.2 ⟨c, hc, hv⟩)]
    exact hk c hc
theorem AV.ok_vars {a : AV} {σ} (h : ∀ v ∈ a.vars, ρ' v = ρ v) (hk : a.ok σ ρ) : a.ok σ ρ' := by
  cases a with
  | «at» a => exact AT.ok_vars h hk
  | tup l => exact fun x hx => AT.ok_vars (fun v hv => h v (List.mem_flatMap.2 ⟨x, hx, hv⟩)) (hk x hx)

def Cmd.tgt : Cmd → Option Nat
  | .isAgg .. | .isOne _ | .isBool .. | .bnd .. | .bndl .. | .ltlen .. => none
  | .cp _ v | .bin _ _ _ _ v | .un _ _ v | .conv _ _ _ v | .tupc _ _ v | .get _ _ v | .geta _ _ _ v | .getx _ _ _ v | .getxa _ _ _ _ v | .set _ _ _ v | .setx _ _ _ _ v
  | .len _ _ v | .sub _ _ _ _ v | .app _ _ _ _ v | .pick _ _ _ v | .call _ _ _ v | .callm _ _ _ _ v _ | .tostr _ v | .mk _ _ _ v | .ext _ _ _ v => some v

/-- what a command looks at beside what it names -/
def Cmd.looks : Cmd → List Nat
  | .isAgg n _ => [n]
  | .isOne a => a.vars
  | .isBool n _ => [n]
  | .bnd n _ => [n]
  | .bndl n m _ => [n, m]
  | .ltlen _ n _ => [n]
  | .cp a _ => a.vars
  | .bin _ _ a b _ => a.vars ++ b.vars
  | .un _ a _ => a.vars
  | .conv _ _ a _ => a.vars
  | .tupc n _ _ => [n]
  | .get r _ _ => r.vars
  | .geta r _ _ _ => r.vars
  | .getx r n _ _ => n :: r.vars
  | .getxa r n _ _ _ => n :: r.vars
  | .set r _ a _ => a.vars ++ r.vars
  | .setx r n _ a _ => n :: (a.vars ++ r.vars)
  | .len n _ _ => [n]
  | .sub r lo hi _ _ => oVars lo ++ oVars hi ++ r.vars
  | .app r q _ _ _ => r.vars ++ q.vars
  | .pick c a b _ => c.vars ++ a.vars ++ b.vars
  | .call _ _ args _ => args.flatMap DE.vars
  | .callm _ _ _ _ _ _ => []
  | .tostr r _ => r.vars
  | .mk _ l _ _ => l.vars
  | .ext _ _ args _ => args.flatMap AV.vars

theorem Cmd.holds_congr {P : Program} {G : Glb} {c : Cmd} (h : ∀ v ∈ c.looks, ρ' v = ρ v) (ht : ∀ v, c.tgt = some v → ρ' v = ρ v) (hc : c.holds P G ρ) : c.holds P G ρ' := by
  cases c with
  | isAgg n k => simpa only [Cmd.holds, h n (by simp [Cmd.looks])] using hc
  | isOne a => simpa only [Cmd.holds, A1.den_congr (a := a) h] using hc
  | isBool n b => simpa only [Cmd.holds, h n (by simp [Cmd.looks])] using hc
  | bnd n k => simpa only [Cmd.holds, h n (by simp [Cmd.looks])] using hc
  | bndl n m k => simpa only [Cmd.holds, h n (by simp [Cmd.looks]), h m (by simp [Cmd.looks])] using hc
  | ltlen j n k => simpa only [Cmd.holds, h n (by simp [Cmd.looks])] using hc
  | cp a v => simpa only [Cmd.holds, ht v rfl, A1.den_congr (a := a) h] using hc
  | bin op T a b v =>
    have ha := AV.den_congr (a := a) fun v hv => h v (List.mem_append_left _ hv)
    have hb := AV.den_congr (a := b) fun v hv => h v (List.mem_append_right _ hv)
    simpa only [Cmd.holds, ht v rfl, ha, hb] using hc
  | un op a v => simpa only [Cmd.holds, ht v rfl, AV.den_congr (a := a) h] using hc
  | conv s d a v => simpa only [Cmd.holds, ht v rfl, AV.den_congr (a := a) h] using hc
  | tupc n i v => simpa only [Cmd.holds, ht v rfl, h n (by simp [Cmd.looks])] using hc
  | get r i v => simpa only [Cmd.holds, ht v rfl, RC.cden_congr (r := r) h] using hc
  | geta r i s v => simpa only [Cmd.holds, ht v rfl, RC.cden_congr (r := r) h] using hc
  | getx r n s v =>
    have hr := RC.cden_congr (r := r) fun v hv => h v (List.mem_cons_of_mem _ hv)
    simpa only [Cmd.holds, ht v rfl, hr, h n (by simp [Cmd.looks])] using hc
  | getxa r n s z v =>
    have hr := RC.cden_congr (r := r) fun v hv => h v (List.mem_cons_of_mem _ hv)
    simpa only [Cmd.holds, ht v rfl, hr, h n (by simp [Cmd.looks])] using hc
  | set r i a v =>
    have ha := A1.den_congr (a := a) fun v hv => h v (List.mem_append_left _ hv)
    have hr := RC.cden_congr (r := r) fun v hv => h v (List.mem_append_right _ hv)
    simpa only [Cmd.holds, ht v rfl, hr, ha] using hc
  | setx r n s a v =>
    have ha := A1.den_congr (a := a) fun v hv => h v (List.mem_cons_of_mem _ (List.mem_append_left _ hv))
    have hr := RC.cden_congr (r := r) fun v hv => h v (List.mem_cons_of_mem _ (List.mem_append_right _ hv))
    simpa only [Cmd.holds, ht v rfl, hr, ha, h n (by simp [Cmd.looks])] using hc
  | len n e v => simpa only [Cmd.holds, ht v rfl, h n (by simp [Cmd.looks])] using hc
  | sub r lo hi e v =>
    have hr := RC.cden_congr (r := r) fun v hv => h v (List.mem_append_right _ hv)
    have h1 : ∀ x, lo = some x → x.den ρ' = x.den ρ := fun x hx => A1.den_congr fun v hv => h v (by simp [Cmd.looks, hx, oVars, hv])
    have h2 : ∀ x, hi = some x → x.den ρ' = x.den ρ := fun x hx => A1.den_congr fun v hv => h v (by simp [Cmd.looks, hx, oVars, hv])
    cases lo with
    | none => cases hi with
      | none => simpa only [Cmd.holds, ht v rfl, hr] using hc
      | some y => simpa only [Cmd.holds, ht v rfl, hr, h2 y rfl] using hc
    | some x => cases hi with
      | none => simpa only [Cmd.holds, ht v rfl, hr, h1 x rfl] using hc
      | some y => simpa only [Cmd.holds, ht v rfl, hr, h1 x rfl, h2 y rfl] using hc
  | app r q e z v =>
    have hr := RC.cden_congr (r := r) fun v hv => h v (List.mem_append_left _ hv)
    have hq := RC.cden_congr (r := q) fun v hv => h v (List.mem_append_right _ hv)
    simpa only [Cmd.holds, ht v rfl, hr, hq] using hc
  | pick c a b v =>
    have h1 := A1.den_congr (a := c) fun v hv => h v (List.mem_append_left _ (List.mem_append_left _ hv))
    have h2 := A1.den_congr (a := a) fun v hv => h v (List.mem_append_left _ (List.mem_append_right _ hv))
    have h3 := A1.den_congr (a := b) fun v hv => h v (List.mem_append_right _ hv)
    simpa only [Cmd.holds, ht v rfl, h1, h2, h3] using hc
  | call f fs args v =>
    have := List.map_congr_left (l := args) (f := DE.den ρ') (g := DE.den ρ) fun a ha => DE.den_congr fun v hv => h v (List.mem_flatMap.2 ⟨a, ha, hv⟩)
    simpa only [Cmd.holds, ht v rfl, this] using hc
  | callm f fs rv args v u => exact hc
  | tostr r v => simpa only [Cmd.holds, ht v rfl, RC.cden_congr (r := r) h] using hc
  | mk z l e v => simpa only [Cmd.holds, ht v rfl, A1.den_congr (a := l) h] using hc
  | ext T o args v =>
    have := List.map_congr_left (l := args) (f := AV.den ρ') (g := AV.den ρ) fun a ha => AV.den_congr fun v hv => h v (List.mem_flatMap.2 ⟨a, ha, hv⟩)
    simpa only [Cmd.holds, ht v rfl, this] using hc
end

/-- the values named so far -/
def lv (l : List Value) : Nat → Value := fun n => l.getD n undef

def VC (P : Program) (G : Glb) : List Cmd → List Value → (List Value → Prop) → Prop
  | [], l, k => k l
  | c :: cs, l, k => match c.tgt with
    | some _ => ∃ x, c.holds P G (lv (l ++ [x])) ∧ VC P G cs (l ++ [x]) k
    | none => c.holds P G (lv l) ∧ VC P G cs l k

def cmdsOk : Nat → List Cmd → Bool
  | _, [] => true
  | n, c :: cs => match c.tgt with
    | some v => v == n && c.looks.all (fun x => decide (x < n + 1)) && cmdsOk (n + 1) cs
    | none => c.looks.all (fun x => decide (x < n)) && cmdsOk n cs

theorem lv_append {l m : List Value} {n : Nat} (h : n < l.length) : lv (l ++ m) n = lv l n := by
  simp [lv, List.getD_eq_getElem?_getD, List.getElem?_append_left h]

theorem VC_sound {P : Program} {G : Glb} : ∀ {cs : List Cmd} {n : Nat} {l : List Value} {k : List Value → Prop}, cmdsOk n cs = true → l.length = n → VC P G cs l k →
    ∃ m, (∀ c ∈ cs, c.holds P G (lv (l ++ m))) ∧ k (l ++ m) := by
  intro cs
  induction cs with
  | nil => intro n l k _ _ h; exact ⟨[], by simp, by simpa [VC] using h⟩
  | cons c cs ih =>
    intro n l k hok hl h
    simp only [VC] at h
    simp only [cmdsOk] at hok
    split at h
    · rename_i v hv
      rw [hv] at hok
      simp only [Bool.and_eq_true, beq_iff_eq] at hok
      obtain ⟨x, hx, h⟩ := h
      obtain ⟨m, h1, h2⟩ := ih hok.2 (by simp [hl]) h
      refine ⟨x :: m, fun c' hc' => ?_, by simpa using h2⟩
      rcases List.mem_cons.1 hc' with rfl | hc'
      · refine Cmd.holds_congr (fun y hy => ?_) (fun y hy => ?_) hx
        · have := List.all_eq_true.1 hok.1.2 y hy
          have := lv_append (l := l ++ [x]) (m := m) (n := y) (by simp [hl]; simpa using this)
          simpa using this
        · rw [hv] at hy; cases hy
          have := lv_append (l := l ++ [x]) (m := m) (n := v) (by simp [hl, hok.1.1])
          simpa using this
      · have := h1 c' hc'
        simpa using this
    · rename_i hv
      rw [hv] at hok
      simp only [Bool.and_eq_true] at hok
      obtain ⟨m, h1, h2⟩ := ih hok.2 hl h.2
      refine ⟨m, fun c' hc' => ?_, h2⟩
      rcases List.mem_cons.1 hc' with rfl | hc'
      · refine Cmd.holds_congr (fun y hy => ?_) (fun y hy => by rw [hv] at hy; cases hy) h.1
        have := List.all_eq_true.1 hok.1 y hy
        exact lv_append (by rw [hl]; simpa using this)
      · exact h1 c' hc'

/-- the variables that a state names are below n -/
def St.vOk (S : St) (n : Nat) : Bool :=
  S.sl.all (fun x => x.2.vars.all fun v => decide (v < n)) && S.rw.all (fun x => match x.2 with | none => true | some r => r.c.vars.all fun v => decide (v < n))
def St.mOk (S : St) (gb : Nat) : Bool :=
  S.sl.all (fun x => x.2.gh.all fun v => decide (v < gb)) && S.rw.all (fun x => match x.2 with | none => true | some r => decide (x.1 < gb) && r.c.gh.all fun v => decide (v < gb)) && S.wr.all (fun x => decide (x.1 < gb))

theorem St.mOk_ment {S : St} {gb : Nat} (h : S.mOk gb = true) : ∀ k, S.ment k → k < gb := by
  simp only [St.mOk, Bool.and_eq_true] at h
  obtain ⟨⟨h1, h2⟩, h3⟩ := h
  rintro k (⟨t, v, ht, hk⟩ | ⟨k', r, hr, hk⟩ | ho)
  · have := List.all_eq_true.1 (List.all_eq_true.1 h1 _ (lk_some_mem ht)) k hk
    simpa using this
  · simp only [St.row] at hr
    cases hl : lk S.rw k' with
    | none => rw [hl] at hr; cases hr
    | some x =>
      rw [hl] at hr
      simp at hr
      subst hr
      have := List.all_eq_true.1 h2 _ (lk_some_mem hl)
      simp only [Bool.and_eq_true, decide_eq_true_eq] at this
      rcases hk with rfl | hk
      · exact this.1
      · have := List.all_eq_true.1 this.2 k hk
        simpa using this
  · simp only [St.own] at ho
    cases hl : lk S.wr k with
    | none => rw [hl] at ho; cases ho
    | some x => have := List.all_eq_true.1 h3 _ (lk_some_mem hl); simpa using this

theorem Gam.vars {w0 : World} {M : Ms} {N : Nat} {S : St} {σ : Nat → GV} {ρ ρ' : Nat → Value} {a : Act} {w : World} {n : Nat} (hg : Gam w0 M N S σ ρ a w) (h : S.vOk n = true) (hr : ∀ v, v < n → ρ' v = ρ v) : Gam w0 M N S σ ρ' a w := by
  simp only [St.vOk, Bool.and_eq_true] at h
  have hrow : ∀ k r, S.row k = some r → r.c.cont σ ρ' = r.c.cont σ ρ := by
    intro k r hk
    simp only [St.row] at hk
    cases hl : lk S.rw k with
    | none => rw [hl] at hk; cases hk
    | some x =>
      rw [hl] at hk
      simp at hk
      subst hk
      have := List.all_eq_true.1 h.2 _ (lk_some_mem hl)
      exact RC.cont_vars fun v hv => hr v (by have := List.all_eq_true.1 this v hv; simpa using this)
  exact {
    defers := hg.defers
    size := hg.size
    slot := fun t v ht => by
      have hv : ∀ x ∈ v.vars, ρ' x = ρ x := fun x hx => hr x (by
        have := List.all_eq_true.1 (List.all_eq_true.1 h.1 _ (lk_some_mem ht)) x hx
        simpa using this)
      obtain ⟨h1, h2⟩ := hg.slot t v ht
      exact ⟨by rw [h1, AV.conc_vars hv], AV.ok_vars hv h2⟩
    row := fun k r hk => by
      have e := hrow k r hk
      obtain ⟨h1, h2, h3⟩ := hg.row k r hk
      exact ⟨by rw [e]; exact h1, by rw [e]; exact h2, by rw [e]; exact h3⟩
    own := fun k hk => by
      obtain ⟨r, h1, h2⟩ := hg.own k hk
      exact ⟨r, h1, by rw [hrow k r h1]; exact h2⟩
    glob := hg.glob
    src := hg.src
    frm := hg.frm }
end Go.Sx

/-
  A state that says less: some places get variables of their own.
-/
namespace Go.Sx

def litEq : Value → Value → Bool
  | .int k i, .int k' j => k == k' && i == j
  | .bool a, .bool b => a == b
  | .slice none 0 0, .slice none 0 0 => true
  | _, _ => false
theorem litEq_eq {a b : Value} (h : litEq a b = true) : a = b := by
  unfold litEq at h
  split at h
  · simp only [Bool.and_eq_true, beq_iff_eq] at h; rw [h.1, h.2]
  · simp only [beq_iff_eq] at h; rw [h]
  · rfl
  · cases h

def A1.eqb : A1 → A1 → Bool
  | .lit a, .lit b => litEq a b
  | .var a, .var b => a == b
  | .part a b c, .part d e f => a == d && b == e && c == f
  | .ptr a b, .ptr c d => a == c && b == d
  | .ptrx a b c, .ptrx d e f => a == d && b == e && c == f
  | .sl a, .sl b => a == b
  | _, _ => false
theorem A1.eqb_eq {a b : A1} (h : a.eqb b = true) : a = b := by
  unfold A1.eqb at h
  split at h
  · rw [litEq_eq h]
  · rw [show _ = _ from eq_of_beq h]
  · simp only [Bool.and_eq_true, beq_iff_eq] at h; rw [h.1.1, h.1.2, h.2]
  · simp only [Bool.and_eq_true, beq_iff_eq] at h; rw [h.1, h.2]
  · simp only [Bool.and_eq_true, beq_iff_eq] at h; rw [h.1.1, h.1.2, h.2]
  · rw [show _ = _ from eq_of_beq h]
  · cases h

def lsEq {α : Type} (f : α → α → Bool) : List α → List α → Bool
  | [], [] => true
  | a :: l, b :: m => f a b && lsEq f l m
  | _, _ => false
theorem lsEq_eq {α : Type} {f : α → α → Bool} (hf : ∀ a b, f a b = true → a = b) : ∀ {l m : List α}, lsEq f l m = true → l = m := by
  intro l
  induction l with
  | nil => intro m h; cases m with
    | nil => rfl
    | cons b m => cases h
  | cons a l ih =>
    intro m h
    cases m with
    | nil => cases h
    | cons b m =>
      simp only [lsEq, Bool.and_eq_true] at h
      rw [hf _ _ h.1, ih h.2]

def AT.eqb : AT → AT → Bool
  | .one a, .one b => a.eqb b
  | .agg l, .agg m => lsEq A1.eqb l m
  | _, _ => false
theorem AT.eqb_eq {a b : AT} (h : a.eqb b = true) : a = b := by
  unfold AT.eqb at h
  split at h
  · rw [A1.eqb_eq h]
  · rw [lsEq_eq (fun _ _ => A1.eqb_eq) h]
  · cases h
def AV.eqb : AV → AV → Bool
  | .at a, .at b => a.eqb b
  | .tup l, .tup m => lsEq AT.eqb l m
  | _, _ => false
theorem AV.eqb_eq {a b : AV} (h : a.eqb b = true) : a = b := by
  unfold AV.eqb at h
  split at h
  · rw [AT.eqb_eq h]
  · rw [lsEq_eq (fun _ _ => AT.eqb_eq) h]
  · cases h
def RC.eqb : RC → RC → Bool
  | .lst l, .lst m => lsEq A1.eqb l m
  | .all n, .all m => n == m
  | .nest n, .nest m => n == m
  | _, _ => false
theorem RC.eqb_eq {a b : RC} (h : a.eqb b = true) : a = b := by
  unfold RC.eqb at h
  split at h
  · rw [lsEq_eq (fun _ _ => A1.eqb_eq) h]
  · rw [show _ = _ from eq_of_beq h]
  · rw [show _ = _ from eq_of_beq h]
  · cases h

def pim (π : List (Nat × Nat)) (k : Nat) : Nat := (lk π k).getD k

section
variable (nv : Nat) (τ : List AV) (π : List (Nat × Nat))

def sbA1 : A1 → Option A1
  | .lit v => some (.lit v)
  | .var n => if n < nv then some (.var n) else match τ[n - nv]? with
    | some (.at (.one a)) => some a
    | _ => none
  | .part n i sz => if n < nv then some (.part n i sz) else match τ[n - nv]? with
    | some (.at (.agg l)) => l[i]?
    | some (.at (.one (.var m))) => some (.part m i sz)
    | _ => none
  | .ptr k o => some (.ptr (pim π k) o)
  | .ptrx k n sc => if n < nv then some (.ptrx (pim π k) n sc) else match τ[n - nv]? with
    | some (.at (.one (.var m))) => some (.ptrx (pim π k) m sc)
    | _ => none
  | .sl k => some (.sl (pim π k))

def sbL : List A1 → Option (List A1)
  | [] => some []
  | a :: l => match sbA1 nv τ π a with
    | none => none
    | some b => match sbL l with
      | none => none
      | some m => some (b :: m)

def sbAT : AT → Option AT
  | .one (.var n) => if n < nv then some (.one (.var n)) else match τ[n - nv]? with
    | some (.at x) => some x
    | _ => none
  | .one a => (sbA1 nv τ π a).map .one
  | .agg l => (sbL nv τ π l).map .agg

def sbTs : List AT → Option (List AT)
  | [] => some []
  | a :: l => match sbAT nv τ π a with
    | none => none
    | some b => match sbTs l with
      | none => none
      | some m => some (b :: m)

def sbAV : AV → Option AV
  | .at x => (sbAT nv τ π x).map .at
  | .tup l => (sbTs nv τ π l).map .tup

def sbRC : RC → Option RC
  | .lst l => (sbL nv τ π l).map .lst
  | .all n => if n < nv then some (.all n) else match τ[n - nv]? with
    | some (.at (.agg l)) => some (.lst l)
    | some (.at (.one (.var m))) => some (.all m)
    | _ => none
  | .nest n => if n < nv then some (.nest n) else none

def eqSome {α : Type} (f : α → α → Bool) : Option α → Option α → Bool
  | some a, some b => f a b
  | _, _ => false
def apOk : Option Nat → Option Nat → Bool
  | none, _ => true
  | some a, some b => a == b
  | _, _ => false

/-- the target says no more than the state at hand -/
def fitOk (T S : St) : Bool :=
  T.sl.all (fun x => eqSome AV.eqb (S.slot x.1) (sbAV nv τ π x.2)) &&
  T.rw.all (fun x => match x.2 with
    | none => true
    | some r => match S.row (pim π x.1) with
      | none => false
      | some r' => r'.es == r.es && apOk r.ap r'.ap && eqSome RC.eqb (some r'.c) (sbRC nv τ π r.c)) &&
  T.wr.all (fun x => !x.2 || (S.own (pim π x.1) && (T.row x.1).isSome)) &&
  T.rw.all (fun x => T.rw.all fun y => x.1 == y.1 || !(pim π x.1 == pim π y.1)) &&
  π.all (fun x => decide (10000 ≤ x.1)) &&
  τ.all AV.pure

variable (σ : Nat → GV) (ρ : Nat → Value)

def rhoOf : Nat → Value := fun n => if n < nv then ρ n else ((τ[n - nv]?).map (AV.den ρ)).getD undef
def sigOf : Nat → GV := fun k => σ (pim π k)

variable {nv τ π σ ρ}

theorem sbA1_conc (hp : τ.all AV.pure = true) {a b : A1} (h : sbA1 nv τ π a = some b) : a.conc (sigOf π σ) (rhoOf nv τ ρ) = b.conc σ ρ := by
  have hpu : ∀ (i : Nat) (x : AV), τ[i]? = some x → x.pure = true := fun i x hx => List.all_eq_true.1 hp x (List.mem_of_getElem? hx)
  cases a with
  | lit v => cases h; rfl
  | var n =>
    simp only [sbA1] at h
    split at h
    · rename_i hn; cases h; simp only [A1.conc, rhoOf, if_pos hn]
    · rename_i hn
      split at h
      · rename_i a ha
        cases h
        simp only [A1.conc, rhoOf, if_neg hn, ha, Option.map_some, Option.getD_some]
        exact (A1.conc_pure (hpu _ _ ha) σ ρ).symm
      · cases h
  | part n i sz =>
    simp only [sbA1] at h
    split at h
    · rename_i hn; cases h; simp only [A1.conc, rhoOf, if_pos hn]
    · rename_i hn
      split at h
      · rename_i l ha
        have hb : b.pure = true := List.all_eq_true.1 (hpu _ _ ha) b (List.mem_of_getElem? h)
        rw [A1.conc_pure hb]
        simp only [A1.conc, rhoOf, if_neg hn, ha, Option.map_some, Option.getD_some, AV.den, AT.den, vc, Value.cells]
        simp [Array.getD_eq_getD_getElem?, h]
      · rename_i m ha
        cases h
        simp only [A1.conc, rhoOf, if_neg hn, ha, Option.map_some, Option.getD_some]
        rfl
      · cases h
  | ptr k o => cases h; rfl
  | ptrx k n sc =>
    simp only [sbA1] at h
    split at h
    · rename_i hn; cases h; simp only [A1.conc, rhoOf, if_pos hn]; rfl
    · rename_i hn
      split at h
      · rename_i m ha
        cases h
        simp only [A1.conc, rhoOf, if_neg hn, ha, Option.map_some, Option.getD_some]
        rfl
      · cases h
  | sl k => cases h; rfl

theorem sbL_conc (hp : τ.all AV.pure = true) : ∀ {l m : List A1}, sbL nv τ π l = some m → l.map (A1.conc (sigOf π σ) (rhoOf nv τ ρ)) = m.map (A1.conc σ ρ) := by
  intro l
  induction l with
  | nil => intro m h; cases h; rfl
  | cons a l ih =>
    intro m h
    simp only [sbL] at h
    split at h
    · cases h
    · rename_i b hb
      split at h
      · cases h
      · rename_i m' hm
        cases h
        simp only [List.map_cons, sbA1_conc hp hb, ih hm]

theorem sbAT_conc (hp : τ.all AV.pure = true) {a b : AT} (h : sbAT nv τ π a = some b) : a.conc (sigOf π σ) (rhoOf nv τ ρ) = b.conc σ ρ ∧ (b.ok σ ρ → a.ok (sigOf π σ) (rhoOf nv τ ρ)) := by
  unfold sbAT at h
  split at h
  · rename_i n
    split at h
    · rename_i hn; cases h; exact ⟨by simp only [AT.conc, A1.conc, rhoOf, if_pos hn], fun _ => trivial⟩
    · rename_i hn
      split at h
      · rename_i x hx
        cases h
        refine ⟨?_, fun _ => trivial⟩
        have hpu : (AV.at b).pure = true := List.all_eq_true.1 hp _ (List.mem_of_getElem? hx)
        simp only [AT.conc, A1.conc, rhoOf, if_neg hn, hx, Option.map_some, Option.getD_some]
        exact (AT.conc_pure hpu σ ρ).symm
      · cases h
  · obtain ⟨c, hc, rfl⟩ := Option.map_eq_some_iff.1 h
    exact ⟨sbA1_conc hp hc, fun _ => trivial⟩
  · obtain ⟨m, hm, rfl⟩ := Option.map_eq_some_iff.1 h
    have e := sbL_conc (σ := σ) (ρ := ρ) hp hm
    refine ⟨by simp only [AT.conc, e], fun hok c hc => ?_⟩
    have : c.conc (sigOf π σ) (rhoOf nv τ ρ) ∈ m.map (A1.conc σ ρ) := by rw [← e]; exact List.mem_map.2 ⟨c, hc, rfl⟩
    obtain ⟨c', hc', e'⟩ := List.mem_map.1 this
    rw [← e']; exact hok c' hc'

theorem sbTs_conc (hp : τ.all AV.pure = true) : ∀ {l m : List AT}, sbTs nv τ π l = some m → l.map (AT.conc (sigOf π σ) (rhoOf nv τ ρ)) = m.map (AT.conc σ ρ) ∧ ((∀ x ∈ m, x.ok σ ρ) → ∀ x ∈ l, x.ok (sigOf π σ) (rhoOf nv τ ρ)) := by
  intro l
  induction l with
  | nil => intro m h; cases h; exact ⟨rfl, fun _ x hx => by cases hx⟩
  | cons a l ih =>
    intro m h
    simp only [sbTs] at h
    split at h
    · cases h
    · rename_i b hb
      split at h
      · cases h
      · rename_i m' hm
        cases h
        obtain ⟨h1, h2⟩ := sbAT_conc (σ := σ) (ρ := ρ) hp hb
        obtain ⟨h3, h4⟩ := ih hm
        refine ⟨by simp only [List.map_cons, h1, h3], fun hok x hx => ?_⟩
        rcases List.mem_cons.1 hx with rfl | hx
        · exact h2 (hok b (by simp))
        · exact h4 (fun y hy => hok y (by simp [hy])) x hx

theorem sbAV_conc (hp : τ.all AV.pure = true) {a b : AV} (h : sbAV nv τ π a = some b) : a.conc (sigOf π σ) (rhoOf nv τ ρ) = b.conc σ ρ ∧ (b.ok σ ρ → a.ok (sigOf π σ) (rhoOf nv τ ρ)) := by
  cases a with
  | «at» x =>
    obtain ⟨c, hc, rfl⟩ := Option.map_eq_some_iff.1 h
    exact sbAT_conc hp hc
  | tup l =>
    obtain ⟨m, hm, rfl⟩ := Option.map_eq_some_iff.1 h
    obtain ⟨h1, h2⟩ := sbTs_conc (σ := σ) (ρ := ρ) hp hm
    exact ⟨by simp only [AV.conc, h1], h2⟩

theorem sbRC_cont (hp : τ.all AV.pure = true) {a b : RC} (h : sbRC nv τ π a = some b) : a.cont (sigOf π σ) (rhoOf nv τ ρ) = b.cont σ ρ := by
  cases a with
  | lst l =>
    obtain ⟨m, hm, rfl⟩ := Option.map_eq_some_iff.1 h
    exact sbL_conc hp hm
  | all n =>
    simp only [sbRC] at h
    split at h
    · rename_i hn; cases h; simp only [RC.cont, rhoOf, if_pos hn]
    · rename_i hn
      split at h
      · rename_i l hx
        cases h
        have hpu : (AV.at (.agg l)).pure = true := List.all_eq_true.1 hp _ (List.mem_of_getElem? hx)
        simp only [RC.cont, rhoOf, if_neg hn, hx, Option.map_some, Option.getD_some, AV.den, AT.den, Value.cells]
        exact (map_conc_pure hpu σ ρ).symm
      · rename_i m hx
        cases h
        simp only [RC.cont, rhoOf, if_neg hn, hx, Option.map_some, Option.getD_some, AV.den, AT.den, A1.den]
      · cases h
  | nest n =>
    simp only [sbRC] at h
    split at h
    · rename_i hn; cases h; simp only [RC.cont, rhoOf, if_pos hn]
    · cases h

theorem eqSome_eq {α : Type} {f : α → α → Bool} (hf : ∀ a b, f a b = true → a = b) {x y : Option α} (h : eqSome f x y = true) : ∃ a, x = some a ∧ y = some a := by
  cases x <;> cases y <;> simp only [eqSome, Bool.false_eq_true] at h
  rw [hf _ _ h]; exact ⟨_, rfl, rfl⟩

theorem Gam.fit {w0 : World} {M : Ms} {N : Nat} {S T : St} {a : Act} {w : World} (hg : Gam w0 M N S σ ρ a w) (h : fitOk nv τ π T S = true) : Gam w0 M N T (sigOf π σ) (rhoOf nv τ ρ) a w := by
  simp only [fitOk, Bool.and_eq_true] at h
  obtain ⟨⟨⟨⟨⟨h1, h2⟩, h3⟩, h4⟩, h5⟩, hp⟩ := h
  have hrow : ∀ k r, T.row k = some r → ∃ r', S.row (pim π k) = some r' ∧ r'.es = r.es ∧ apOk r.ap r'.ap = true ∧ r.c.cont (sigOf π σ) (rhoOf nv τ ρ) = r'.c.cont σ ρ ∧ (k, some r) ∈ T.rw := by
    intro k r hk
    simp only [St.row] at hk
    cases hl : lk T.rw k with
    | none => rw [hl] at hk; cases hk
    | some x =>
      rw [hl] at hk
      simp at hk
      subst hk
      have hm := lk_some_mem hl
      have := List.all_eq_true.1 h2 _ hm
      simp only [] at this
      split at this
      · cases this
      · rename_i r' hr'
        simp only [Bool.and_eq_true, beq_iff_eq] at this
        obtain ⟨c, e1, e2⟩ := eqSome_eq (fun _ _ => RC.eqb_eq) this.2
        cases e1
        exact ⟨r', hr', this.1.1, this.1.2, sbRC_cont hp e2, hm⟩
  exact {
    defers := hg.defers
    size := hg.size
    slot := fun t v ht => by
      have := List.all_eq_true.1 h1 _ (lk_some_mem ht)
      obtain ⟨u, e1, e2⟩ := eqSome_eq (fun _ _ => AV.eqb_eq) this
      obtain ⟨h6, h7⟩ := hg.slot t u e1
      obtain ⟨h8, h9⟩ := sbAV_conc (σ := σ) (ρ := ρ) hp e2
      exact ⟨by rw [h6, h8], h9 h7⟩
    row := fun k r hk => by
      obtain ⟨r', hr', e1, e2, e3, _⟩ := hrow k r hk
      obtain ⟨q1, q2, q3⟩ := hg.row _ _ hr'
      refine ⟨by rw [e3]; exact q1, by rw [e3, ← e1]; exact q2, fun e he => ?_⟩
      have : r'.ap = some e := by
        rw [he] at e2
        cases hx : r'.ap with
        | none => rw [hx] at e2; cases e2
        | some y => rw [hx] at e2; rw [show e = y by simpa [apOk] using e2]
      rw [e3, ← e1]
      exact q3 e this
    own := fun k hk => by
      simp only [St.own] at hk
      cases hl : lk T.wr k with
      | none => rw [hl] at hk; cases hk
      | some x =>
        rw [hl] at hk
        simp at hk
        subst hk
        have := List.all_eq_true.1 h3 _ (lk_some_mem hl)
        simp only [Bool.not_true, Bool.false_or, Bool.and_eq_true] at this
        obtain ⟨r, hr⟩ := Option.isSome_iff_exists.1 this.2
        obtain ⟨r', hr', e1, e2, e3, hm⟩ := hrow k r hr
        obtain ⟨q, hq, hq'⟩ := hg.own _ this.1
        rw [hr'] at hq; cases hq
        refine ⟨r, hr, fun hn => ?_⟩
        obtain ⟨q1, q2, q3⟩ := hq' hn
        refine ⟨by rw [e3]; exact q1, q2, fun k' r2 hne hr2 hn2 => ?_⟩
        obtain ⟨r3, hr3, _, _, _, hm2⟩ := hrow k' r2 hr2
        refine q3 (pim π k') r3 ?_ hr3 hn2
        have := List.all_eq_true.1 (List.all_eq_true.1 h4 _ hm2) _ hm
        simp only [Bool.or_eq_true, beq_iff_eq, Bool.not_eq_true', beq_eq_false_iff_ne] at this
        exact this.resolve_left hne
    glob := fun g hgl => by
      have : pim π g = g := by
        simp only [pim]
        rw [lk_none]
        · rfl
        · intro hm
          obtain ⟨x, hx, e⟩ := List.mem_map.1 hm
          have := List.all_eq_true.1 h5 x hx
          simp only [decide_eq_true_eq] at this
          omega
      simp only [sigOf, this]
      exact hg.glob g hgl
    src := fun k r hk => by
      obtain ⟨r', hr', _⟩ := hrow k r hk
      exact hg.src _ _ hr'
    frm := hg.frm }

/-! ### what stands for the new variables, found -/
structure Bd where
  v : List (Nat × AV)
  g : List (Nat × Nat)

def bdL (nv : Nat) : Nat → List A1 → List A1 → List (Nat × AV)
  | _, [], _ => []
  | p, .var n :: l, m => (if n < nv then [] else match m[p]? with | some a => [(n, .at (.one a))] | none => []) ++ bdL nv (p + 1) l m
  | p, .part n 0 sz :: l, m => (if n < nv then [] else [(n, (etaAgg ((m.drop p).take sz)).1)]) ++ bdL nv (p + 1) l m
  | p, _ :: l, m => bdL nv (p + 1) l m

def bdSl (nv : Nat) (S : St) : List (Nat × AV) → Bd
  | [] => ⟨[], []⟩
  | (t, v) :: r =>
    let b := bdSl nv S r
    match v, S.slot t with
    | .at (.one (.var n)), some x => if n < nv then b else ⟨(n, x) :: b.v, b.g⟩
    | .at (.one (.sl g)), some (.at (.one (.sl k))) => if g == k then b else ⟨b.v, (g, k) :: b.g⟩
    | _, _ => b

def bdRw (nv : Nat) (S : St) (g : List (Nat × Nat)) : List (Nat × Option Row) → List (Nat × AV)
  | [] => []
  | (k, some r) :: l => (match r.c, S.row (pim g k) with
    | .all n, some r' => if n < nv then [] else match r'.c with
      | .all m => [(n, v1 m)]
      | .lst m => [(n, (etaAgg m).1)]
      | _ => []
    | .lst x, some r' => match r'.c with
      | .lst y => bdL nv 0 x y
      | _ => []
    | _, _ => []) ++ bdRw nv S g l
  | _ :: l => bdRw nv S g l

def bdAll (l : List (Nat × AV)) : List Nat → Option (List AV)
  | [] => some []
  | n :: r => match lk l n with
    | none => none
    | some v => match bdAll l r with
      | none => none
      | some vs => some (v :: vs)

/-- how the state at hand is one of the target's: the values of the new variables, if it is -/
def fit (nv m : Nat) (T S : St) : Option (List AV × List (Nat × Nat)) :=
  let b := bdSl nv S T.sl
  let l := b.v ++ bdRw nv S b.g T.rw
  match bdAll l (List.range' nv m) with
  | none => none
  | some τ => if fitOk nv τ b.g T S then some (τ, b.g) else none

theorem fit_ok {m : Nat} {T S : St} (h : fit nv m T S = some (τ, π)) : fitOk nv τ π T S = true := by
  unfold fit at h
  simp only [] at h
  split at h
  · cases h
  · split at h
    · cases h; assumption
    · cases h

theorem bdAll_len {l : List (Nat × AV)} : ∀ {r : List Nat} {x : List AV}, bdAll l r = some x → x.length = r.length := by
  intro r
  induction r with
  | nil => intro x h; cases h; rfl
  | cons n r ih =>
    intro x h
    simp only [bdAll] at h
    split at h
    · cases h
    · split at h
      · cases h
      · rename_i vs hvs
        cases h
        simp [ih hvs]
theorem fit_len {m : Nat} {T S : St} (h : fit nv m T S = some (τ, π)) : τ.length = m := by
  unfold fit at h
  simp only [] at h
  split at h
  · cases h
  · rename_i t ht
    split at h
    · cases h; simpa using bdAll_len ht
    · cases h

theorem rhoOf_lv {l : List Value} {l1 : List Value} (h1 : l1.length = nv) (hl : ∀ v, v < nv → lv l v = lv l1 v) {v : Nat} : rhoOf nv τ (lv l) v = lv (l1 ++ τ.map (AV.den (lv l))) v := by
  simp only [rhoOf]
  split
  · rename_i h
    rw [hl v h, lv_append (by omega)]
  · rename_i h
    simp only [lv, List.getD_eq_getElem?_getD]
    rw [List.getElem?_append_right (by omega), List.getElem?_map, h1]
end
end Go.Sx

/-
  What is shown of a piece of code from a state on: its rules.
-/
namespace Go.Sx
open Go.RowKit (Below)

/-- what stands fast while a function runs -/
structure Cx (P : Program) (G : Glb) (C : Cfg) where
  w0 : World
  M : Ms
  hmx : P.follows .mixedOrders = true
  hti : TIok P C.ti
  hG : G.ok w0
  hM : ∀ k, M.m k → G.ng ≤ k
  hA : ∀ k, k < G.ng → M.a k

/-- with these decisions; loops run through so many rounds at most, or (0) stop the run -/
def Cfg.wd (C : Cfg) (d : Nat → Option Bool) (u : Nat) : Cfg := { C with dec := d, un := u }

/-- from this state, with these values, the code that is still to be run ends as Q says -/
def Jd {P : Program} {G : Glb} {C : Cfg} (X : Cx P G C) (Q : Exit → Act → World → Prop) (S : St) (k : List It) (e : Ex) (l : List Value) : Prop :=
  ∀ σ a w, Gam X.w0 X.M C.N S σ (lv l) a w → wpK P Q k e.to a w

def JF {P : Program} {G : Glb} {C : Cfg} (X : Cx P G C) (Q : Exit → Act → World → Prop) (l : List Value) : Fin → Prop
  | .done e S => Jd X Q S [] e l
  | .loop c k S => Jd X Q S (.c (.loop c) :: k) .nor l
  | .rng f ps as b k S => Jd X Q S (.c (.rangeFunc f ps as b) :: k) .nor l

def ex1 (C : Cfg) (d : Nat → Option Bool) (u fuel gb nv : Nat) (S : St) (k : List It) (e : Ex) : Option Ran :=
  if decide (10000 ≤ gb) && S.mOk gb && S.vOk nv then
    match exK (C.wd d u) fuel gb nv S k e with
    | none => none
    | some r => if cmdsOk nv r.cm then some r else none
  else none

section
variable {P : Program} {G : Glb} {C : Cfg} {X : Cx P G C} {Q : Exit → Act → World → Prop} {S : St} {k : List It} {e : Ex} {l : List Value}

theorem Jd.run {d : Nat → Option Bool} {u fuel gb : Nat} {r : Ran} (h : ex1 C d u fuel gb l.length S k e = some r)
    (hv : VC P G r.cm l fun l' => JF X Q l' r.f) : Jd X Q S k e l := by
  unfold ex1 at h
  split at h
  · rename_i hok
    simp only [Bool.and_eq_true, decide_eq_true_eq] at hok
    obtain ⟨⟨hgb, hm⟩, hvk⟩ := hok
    split at h
    · cases h
    · rename_i r' hr
      split at h
      · rename_i hcm
        cases h
        intro σ a w hg
        obtain ⟨m, h1, h2⟩ := VC_sound hcm rfl hv
        have hg' := hg.vars (ρ' := lv (l ++ m)) hvk fun _ hv => lv_append hv
        refine exK_sound (C := C.wd d u) rfl X.hmx X.hti X.hG X.hM X.hA fuel gb l.length S k e r hr hgb (St.mOk_ment hm) h1 ?_ σ a w hg'
        revert h2
        cases r.f with
        | done e S' => intro h2 σ' a' w' hg'; exact h2 σ' a' w' hg'
        | loop c k S' => intro h2 σ' a' w' hg'; exact h2 σ' a' w' hg'
        | rng f ps as b k S' => intro h2 σ' a' w' hg'; exact h2 σ' a' w' hg'
      · cases h
  · cases h

/-- what a round of a loop comes to -/
def LQ {P : Program} {G : Glb} {C : Cfg} (X : Cx P G C) (Q : Exit → Act → World → Prop) (k : List It) (T : St) (l : List Value) (Inv : Nat → List Value → Prop) (m n : Nat) : Exit → Act → World → Prop := fun e a w =>
  match e with
  | .normal => ∃ n', n' < n ∧ ∃ xs, Inv n' xs ∧ xs.length = m ∧ ∃ σ, Gam X.w0 X.M C.N T σ (lv (l ++ xs)) a w
  | e => wpK P Q k e a w

theorem wp_loopN {P : Program} {Q : Exit → Act → World → Prop} {c : Code} (I : Nat → Act → World → Prop) {n : Nat} {a : Act} {w : World} (h0 : I n a w)
    (round : ∀ n a w, I n a w → c.wp P (Exit.then (fun a' w' => ∃ n', n' < n ∧ I n' a' w') Q) a w) : (Code.loop c).wp P Q a w := by
  classical
  have hmin : ∀ a w, (∃ n, I n a w) → ∃ n, I n a w ∧ ∀ m, I m a w → n ≤ m := by
    intro a w ⟨n, hn⟩
    induction n using Nat.strongRecOn with
    | _ n ih =>
      by_cases h : ∃ m, m < n ∧ I m a w
      · obtain ⟨m, hm, hI⟩ := h; exact ih m hm hI
      · exact ⟨n, hn, fun m hI => Nat.le_of_not_lt fun hlt => h ⟨m, hlt, hI⟩⟩
  refine wp_loop (fun a w => ∃ n, I n a w) (fun a w => if h : ∃ n, I n a w then Classical.choose (hmin a w h) else 0) ⟨n, h0⟩ fun a w hI => ?_
  have hs := Classical.choose_spec (hmin a w hI)
  refine wp_mono (round _ a w hs.1) fun e a' w' he => ?_
  cases e <;> try exact he
  obtain ⟨n', hn', hI'⟩ := he
  have hI2 : ∃ n, I n a' w' := ⟨n', hI'⟩
  refine ⟨hI2, ?_⟩
  simp only [dif_pos hI2, dif_pos hI]
  have := (Classical.choose_spec (hmin a' w' hI2)).2 n' hI'
  omega

theorem fit_gam {w0 : World} {M : Ms} {N : Nat} {S T : St} {l l1 : List Value} {m : Nat} {τ : List AV} {π : List (Nat × Nat)} {a : Act} {w : World} {σ : Nat → GV}
    (hfit : fit l1.length m T S = some (τ, π)) (hT : T.vOk (l1.length + m) = true) (hl : ∀ v, v < l1.length → lv l v = lv l1 v) (hg : Gam w0 M N S σ (lv l) a w) :
    ∃ σ', Gam w0 M N T σ' (lv (l1 ++ τ.map (AV.den (lv l)))) a w :=
  ⟨_, (hg.fit (fit_ok hfit)).vars hT fun _ _ => (rhoOf_lv rfl hl).symm⟩

theorem Jd.loop {c : Code} {T : St} {m : Nat} {τ : List AV} {π : List (Nat × Nat)} (Inv : Nat → List Value → Prop) {n0 : Nat}
    (hfit : fit l.length m T S = some (τ, π)) (hT : T.vOk (l.length + m) = true) (h0 : Inv n0 (τ.map (AV.den (lv l))))
    (step : ∀ n xs, xs.length = m → Inv n xs → Jd X (LQ X Q k T l Inv m n) T [.c c] .nor (l ++ xs)) : Jd X Q S (.c (.loop c) :: k) .nor l := by
  intro σ a w hg
  show (Code.loop c).wp P (wpK P Q k) a w
  obtain ⟨σ', hg'⟩ := fit_gam (l := l) hfit hT (fun _ _ => rfl) hg
  refine wp_loopN (fun n a w => ∃ xs, Inv n xs ∧ xs.length = m ∧ ∃ σ, Gam X.w0 X.M C.N T σ (lv (l ++ xs)) a w) (n := n0) ⟨_, h0, by simpa using fit_len hfit, σ', hg'⟩ ?_
  rintro n a w ⟨xs, hI, hlen, σ, hg⟩
  refine wp_mono (step n xs hlen hI σ a w hg) fun e a' w' he => ?_
  cases e <;> exact he

/-- a round's end -/
theorem Jd.next {T : St} {m n : Nat} {τ : List AV} {π : List (Nat × Nat)} {l' : List Value} {Inv : Nat → List Value → Prop} (n' : Nat)
    (hfit : fit l.length m T S = some (τ, π)) (hT : T.vOk (l.length + m) = true) (hl : l'.take l.length = l) (hn : n' < n) (hI : Inv n' (τ.map (AV.den (lv l')))) :
    Jd X (LQ X Q k T l Inv m n) S [] .nor l' := by
  intro σ a w hg
  refine ⟨n', hn, _, hI, by simpa using fit_len hfit, ?_⟩
  refine fit_gam hfit hT (fun _ hv => ?_) hg
  rw [← hl] at hv ⊢
  simp only [lv, List.getD_eq_getElem?_getD, List.getElem?_take]
  rw [if_pos]
  rw [List.length_take] at hv
  omega

/-- a way out of the loop -/
theorem Jd.out {T : St} {m n : Nat} {l' : List Value} {Inv : Nat → List Value → Prop} (he : e ≠ .nor) (h : Jd X Q S k e l') : Jd X (LQ X Q k T l Inv m n) S [] e l' := by
  intro σ a w hg
  have := h σ a w hg
  cases e with
  | nor => exact absurd rfl he
  | exit id => exact this
  | ret => exact this

/-- the slice that is none, as a row of the state's -/
def St.nilrow (S : St) (t g es el : Nat) : St where
  sl := (t, .at (.one (.sl g))) :: S.sl
  rw := (g, some { c := .lst [], es, ap := some el }) :: S.rw
  wr := (g, true) :: S.wr

def isNilSl : Option AV → Bool
  | some (.at (.one (.lit (.slice none 0 0)))) => true
  | _ => false

theorem Jd.nilrow (t g es el : Nat) (h : (isNilSl (S.slot t) && decide (es ≠ 0) && decide (10000 ≤ g) && S.mOk g) = true) (hJ : Jd X Q (S.nilrow t g es el) k e l) : Jd X Q S k e l := by
  simp only [Bool.and_eq_true, decide_eq_true_eq] at h
  obtain ⟨⟨⟨h1, h2⟩, h3⟩, h4⟩ := h
  have h1' : S.slot t = some (.at (.one (.lit (.slice none 0 0)))) := by
    revert h1
    unfold isNilSl
    split
    · rename_i h; intro _; exact h
    · intro h; cases h
  have hfresh : ¬ S.ment g := fun hm => by have := St.mOk_ment h4 g hm; omega
  intro σ a w hg
  have hs := hg.slot t _ h1'
  let gv : GV := ⟨0, 0, 0, 0, true⟩
  have hlt : t < C.N := by
    have := (Array.getElem?_eq_some_iff.1 hs.1).1
    rwa [hg.size] at this
  have := hg.add_row (d := { dst := some t, v := .at (.one (.sl g)), rw := [(g, some { c := .lst [], es, ap := some el })], wr := [(g, true)] }) (gv := gv) (ng := g) hfresh h3 rfl (by simp) (by simpa using hlt) (Ext.refl w)
    ⟨⟨fun _ => ⟨by rfl, by simp [upd_self, gv], by simp [upd_self, gv]⟩, fun hn => by simp [upd_self, gv] at hn, fun hn => by simp [upd_self, gv] at hn, fun c hc => by cases hc⟩, fun _ => by simp [upd_self, gv, RC.cont], fun e' he' => by
      cases he'
      refine ⟨h2, ?_⟩
      rw [upd_self]
      exact World.ownsRow_nil w _ _ _⟩
    (fun _ hn => by cases hn) (fun hn => by cases hn) (fun hn => by cases hn) trivial
  have ha : a.put (some t) ((AV.at (.one (.sl g))).conc (upd σ g gv) (lv l)) = a := by
    simp only [Act.put, AV.conc, AT.conc, A1.conc, upd_self]
    have e : a.tmps.setIfInBounds t gv.slv = a.tmps := by
      apply Array.ext (by simp)
      intro i h1 h2
      rw [Array.getElem_setIfInBounds]
      split
      · rename_i e; subst e
        have := hs.1
        rw [Array.getElem?_eq_getElem h2] at this
        exact (Option.some.inj this).symm
      · rfl
    rw [e]
  rw [ha] at this
  exact hJ _ a w this
end
end Go.Sx

/-
  A whole function: from what is handed to it to what it hands back.
-/
namespace Go.Sx
open Go.RowKit (Below)

def inS : Nat → Nat → Nat → List S2 → Option (List (Nat × AV) × List (Nat × Option Row))
  | _, _, _, [] => some ([], [])
  | i, g, x, c :: r => match c with
    | .one .v => match inS (i + 1) g x r with
      | some (sl, rw) => some ((i, v1 i) :: sl, rw)
      | none => none
    | .one (.s es _) => match inS (i + 1) (g + 1) x r with
      | some (sl, rw) => some ((i, .at (.one (.sl g))) :: sl, (g, some { c := .all i, es, ap := none }) :: rw)
      | none => none
    | .one (.sv es) => match inS (i + 1) (g + 1) x r with
      | some (sl, rw) => some ((i, .at (.one (.sl g))) :: sl, (g, some { c := .all i, es, ap := none }) :: rw)
      | none => none
    | .one (.ss n) => match inS (i + 1) (g + 1 + n) (x + n) r with
      | some (sl, rw) => some ((i, .at (.one (.sl g))) :: sl, (g, some { c := .lst ((List.range n).map fun j => .sl (g + 1 + j)), es := 1, ap := none }) :: ((List.range n).map fun j => (g + 1 + j, some { c := .all (x + j), es := 1, ap := none })) ++ rw)
      | none => none
    | .agg _ => none

def xtr : List S2 → List Value → List Value
  | .one (.ss _) :: r, d :: ds => d.cells.toList ++ xtr r ds
  | _ :: r, _ :: ds => xtr r ds
  | _, _ => []

section
variable {w : World} {A : Nat → Prop} {ρ : Nat → Value}

theorem rowOK_congr {b0 : Nat} {σ σ' : Nat → GV} {k : Nat} {r : Row} (h : RowOK b0 σ ρ w k r) (h1 : σ' k = σ k) (h2 : ∀ k ∈ r.c.gh, σ' k = σ k) : RowOK b0 σ' ρ w k r := h.congr h1 h2

structure InOK (w : World) (A : Nat → Prop) (ρ : Nat → Value) (i g : Nat) (vs : List Value) (sl : List (Nat × AV)) (rw : List (Nat × Option Row)) (σ : Nat → GV) : Prop where
  slot : ∀ t v, (t, v) ∈ sl → ∃ j, t = i + j ∧ vs[j]? = some (v.conc σ ρ) ∧ v.ok σ ρ ∧ ∀ k ∈ v.gh, g ≤ k
  row : ∀ k ro, (k, ro) ∈ rw → ∃ r, ro = some r ∧ g ≤ k ∧ (∀ k' ∈ r.c.gh, g ≤ k') ∧ RowOK w.heap.size σ ρ w k r ∧ ((σ k).nil = false → A (σ k).blk)

theorem InOK.glue {i g g' : Nat} (hgg : g ≤ g') {v0 : Value} {vs : List Value} {sl sl' : List (Nat × AV)} {rw rw' : List (Nat × Option Row)} {σ σ' : Nat → GV}
    (h1 : InOK w A ρ i g [v0] sl rw σ) (hs : ∀ t v, (t, v) ∈ sl → ∀ k ∈ v.gh, k < g') (hr : ∀ k ro, (k, ro) ∈ rw → k < g' ∧ ∀ r, ro = some r → ∀ k' ∈ r.c.gh, k' < g')
    (h2 : InOK w A ρ (i + 1) g' vs sl' rw' σ') : InOK w A ρ i g (v0 :: vs) (sl ++ sl') (rw ++ rw') (fun k => if k < g' then σ k else σ' k) where
  slot t v h := by
    rcases List.mem_append.1 h with h | h
    · obtain ⟨j, e1, e2, e3, e4⟩ := h1.slot t v h
      have hc : ∀ k ∈ v.gh, (if k < g' then σ k else σ' k) = σ k := fun k hk => if_pos (hs t v h k hk)
      refine ⟨j, e1, ?_, AV.ok_congr hc e3, e4⟩
      rw [AV.conc_congr hc]
      cases j with
      | zero => simpa using e2
      | succ j => simp at e2
    · obtain ⟨j, e1, e2, e3, e4⟩ := h2.slot t v h
      have hc : ∀ k ∈ v.gh, (if k < g' then σ k else σ' k) = σ' k := fun k hk => if_neg (by have := e4 k hk; omega)
      exact ⟨j + 1, by omega, by rw [AV.conc_congr hc]; simpa using e2, AV.ok_congr hc e3, fun k hk => Nat.le_trans hgg (e4 k hk)⟩
  row k ro h := by
    rcases List.mem_append.1 h with h | h
    · obtain ⟨r, e1, e2, e3, e4, e5⟩ := h1.row k ro h
      obtain ⟨q1, q2⟩ := hr k ro h
      have hk : (if k < g' then σ k else σ' k) = σ k := if_pos q1
      exact ⟨r, e1, e2, e3, rowOK_congr e4 hk fun k' hk' => if_pos (q2 r e1 k' hk'), by rw [hk]; exact e5⟩
    · obtain ⟨r, e1, e2, e3, e4, e5⟩ := h2.row k ro h
      have hk : (if k < g' then σ k else σ' k) = σ' k := if_neg (by omega)
      exact ⟨r, e1, by omega, fun k' hk' => Nat.le_trans hgg (e3 k' hk'), rowOK_congr e4 hk fun k' hk' => if_neg (by have := e3 k' hk'; omega), by rw [hk]; exact e5⟩

theorem in_sv {i g es : Nat} {v d : Value} (hd : ρ i = d) (h : ∃ gv cs, v = GV.slv gv ∧ d = .agg cs ∧ SliceR w gv cs.toList ∧ LenR gv cs.toList es ∧ (gv.nil = false → A gv.blk)) :
    ∃ σ, InOK w A ρ i g [v] [(i, .at (.one (.sl g)))] [(g, some { c := .all i, es, ap := none })] σ := by
  obtain ⟨gv, cs, e1, e2, e3, e4, e5⟩ := h
  refine ⟨fun _ => gv, ⟨fun t x hx => ?_, fun k ro hk => ?_⟩⟩
  · simp at hx
    obtain ⟨rfl, rfl⟩ := hx
    exact ⟨0, rfl, by simp [AV.conc, AT.conc, A1.conc, e1], trivial, by simp [AV.gh, AT.gh, A1.gh]⟩
  · simp at hk
    obtain ⟨rfl, rfl⟩ := hk
    have ec : (RC.all i).cont (fun _ => gv) ρ = cs.toList := by simp only [RC.cont, hd, e2, Value.cells]
    refine ⟨_, rfl, Nat.le_refl _, by simp [RC.gh], ⟨?_, ?_, ?_⟩, e5⟩
    · show SliceR _ _ ((RC.all i).cont _ ρ); rw [ec]; exact e3
    · intro _; show ((RC.all i).cont _ ρ).length = _ ∧ _; rw [ec]; exact e4.2
    · intro e he; cases he

theorem in_sound : ∀ (args : List S2) (i g x : Nat) (vs ds : List Value) (sl : List (Nat × AV)) (rw : List (Nat × Option Row)), inS i g x args = some (sl, rw) → ArgsR w A args vs ds →
    (∀ j d, ds[j]? = some d → ρ (i + j) = d) → (∀ j d, (xtr args ds)[j]? = some d → ρ (x + j) = d) → ∃ σ, InOK w A ρ i g vs sl rw σ := by
  intro args
  induction args with
  | nil => intro i g x vs ds sl rw h _ _ _; cases h; exact ⟨fun _ => default, { slot := fun _ _ h => by (cases h), row := fun _ _ h => by (cases h) }⟩
  | cons c args ih =>
    intro i g x vs ds sl rw h hA hd hx
    cases vs with
    | nil => exact hA.elim
    | cons v vs =>
      cases ds with
      | nil => exact hA.elim
      | cons d ds =>
        obtain ⟨hA1, hA2⟩ := hA
        have hd0 : ρ i = d := hd 0 d rfl
        have hd' : ∀ j d', ds[j]? = some d' → ρ (i + 1 + j) = d' := fun j d' hj => by
          have := hd (j + 1) d' (by simpa using hj)
          rwa [show i + 1 + j = i + (j + 1) by omega]
        simp only [inS] at h
        cases c with
        | agg l => cases h
        | one c =>
          cases c with
          | v =>
            simp only [] at h
            split at h
            · rename_i sl' rs' hin
              obtain ⟨σ', h'⟩ := ih (i + 1) g x vs ds sl' rs' hin hA2 hd' hx
              cases h
              have h1 : InOK w A ρ i g [v] [(i, v1 i)] [] (fun _ => default) := ⟨fun t y hy => by
                simp at hy; obtain ⟨rfl, rfl⟩ := hy
                have hv : v = d := hA1
                exact ⟨0, rfl, by simp [v1, AV.conc, AT.conc, A1.conc, hd0, hv], trivial, by simp [v1, AV.gh, AT.gh, A1.gh]⟩, fun _ _ h => by cases h⟩
              exact ⟨_, h1.glue (Nat.le_refl _) (fun t y hy => by simp at hy; obtain ⟨rfl, rfl⟩ := hy; simp [v1, AV.gh, AT.gh, A1.gh]) (fun _ _ h => by cases h) h'⟩
            · cases h
          | s es el =>
            simp only [] at h
            split at h
            · rename_i sl' rs' hin
              obtain ⟨σ', h'⟩ := ih (i + 1) (g + 1) x vs ds sl' rs' hin hA2 hd' hx
              cases h
              obtain ⟨σ, h1⟩ := in_sv (i := i) (g := g) hd0 hA1
              exact ⟨_, h1.glue (Nat.le_succ _) (fun t y hy => by simp at hy; obtain ⟨rfl, rfl⟩ := hy; simp [AV.gh, AT.gh, A1.gh]) (fun k ro hk => by simp at hk; obtain ⟨rfl, rfl⟩ := hk; exact ⟨by omega, fun r hr => by cases hr; simp [RC.gh]⟩) h'⟩
            · cases h
          | sv es =>
            simp only [] at h
            split at h
            · rename_i sl' rs' hin
              obtain ⟨σ', h'⟩ := ih (i + 1) (g + 1) x vs ds sl' rs' hin hA2 hd' hx
              cases h
              obtain ⟨σ, h1⟩ := in_sv (i := i) (g := g) hd0 hA1
              exact ⟨_, h1.glue (Nat.le_succ _) (fun t y hy => by simp at hy; obtain ⟨rfl, rfl⟩ := hy; simp [AV.gh, AT.gh, A1.gh]) (fun k ro hk => by simp at hk; obtain ⟨rfl, rfl⟩ := hk; exact ⟨by omega, fun r hr => by cases hr; simp [RC.gh]⟩) h'⟩
            · cases h
          | ss n =>
            simp only [] at h
            split at h
            · rename_i sl' rs' hin
              cases h
              obtain ⟨gv, gs, e1, e2, e3, e4, e5, e6, e7⟩ := hA1
              have hxl : xtr (.one (.ss n) :: args) (d :: ds) = (gs.map fun x => Value.agg x.2) ++ xtr args ds := by
                simp [xtr, e6, Value.cells]
              rw [hxl] at hx
              obtain ⟨σ', h'⟩ := ih (i + 1) (g + 1 + n) (x + n) vs ds sl' rs' hin hA2 hd' (fun j d' hj => by
                have := hx (n + j) d' (by rw [List.getElem?_append_right (by simp [e2])]; simpa [e2] using hj)
                rwa [show x + n + j = x + (n + j) by omega])
              let σ : Nat → GV := fun k => if k = g then gv else ((gs[k - (g + 1)]?).map (·.1)).getD default
              have hσg : σ g = gv := if_pos rfl
              have hσj : ∀ j (hj : j < gs.length), σ (g + 1 + j) = gs[j].1 := fun j hj => by
                simp only [σ]
                rw [if_neg (by omega), show g + 1 + j - (g + 1) = j by omega, List.getElem?_eq_getElem hj]
                rfl
              have hmap : ((List.range n).map fun j => A1.sl (g + 1 + j)).map (A1.conc σ ρ) = gs.map fun x => x.1.slv := by
                apply List.ext_getElem
                · simp [e2]
                · intro j h1 h2
                  have hj : j < gs.length := by simpa using h2
                  simp [A1.conc, hσj j hj]
              have h1 : InOK w A ρ i g [v] [(i, .at (.one (.sl g)))] ((g, some { c := .lst ((List.range n).map fun j => .sl (g + 1 + j)), es := 1, ap := none }) :: ((List.range n).map fun j => (g + 1 + j, some { c := .all (x + j), es := 1, ap := none }))) σ := by
                refine ⟨fun t y hy => ?_, fun k ro hk => ?_⟩
                · simp at hy; obtain ⟨rfl, rfl⟩ := hy
                  exact ⟨0, rfl, by simp [AV.conc, AT.conc, A1.conc, e1, hσg], trivial, by simp [AV.gh, AT.gh, A1.gh]⟩
                · rcases List.mem_cons.1 hk with hk | hk
                  · cases hk
                    refine ⟨_, rfl, Nat.le_refl _, ?_, ⟨?_, ?_, ?_⟩, by rw [hσg]; exact e5⟩
                    · intro k' hk'
                      simp only [RC.gh, List.mem_flatMap, List.mem_map, List.mem_range] at hk'
                      obtain ⟨b, ⟨j, hj, rfl⟩, hb⟩ := hk'
                      simp [A1.gh] at hb
                      omega
                    · rw [hσg]; show SliceR w gv (List.map _ _); rw [hmap]; exact e3
                    · intro _; rw [hσg]; show (List.map _ _).length = _ ∧ _; rw [hmap]; exact e4.2
                    · intro e he; cases he
                  · obtain ⟨j, hj, e⟩ := List.mem_map.1 hk
                    cases e
                    have hj' : j < gs.length := by rw [e2]; simpa using hj
                    obtain ⟨q1, q2, q3⟩ := e7 gs[j] (List.getElem_mem _)
                    have hρ : ρ (x + j) = .agg gs[j].2 := hx j _ (by
                      rw [List.getElem?_append_left (by simpa using hj')]
                      simp [hj'])
                    have ec : (RC.all (x + j)).cont σ ρ = gs[j].2.toList := by simp only [RC.cont, hρ, Value.cells]
                    refine ⟨_, rfl, by omega, by simp [RC.gh], ⟨?_, ?_, ?_⟩, by rw [hσj j hj']; exact q3⟩
                    · rw [hσj j hj']; show SliceR w _ ((RC.all (x + j)).cont _ ρ); rw [ec]; exact q1
                    · intro _; rw [hσj j hj']; show ((RC.all (x + j)).cont _ ρ).length = _ ∧ _; rw [ec]; exact q2.2
                    · intro e he; cases he
              refine ⟨_, h1.glue (g' := g + 1 + n) (by omega) (fun t y hy => by simp at hy; obtain ⟨rfl, rfl⟩ := hy; simp [AV.gh, AT.gh, A1.gh]; omega) (fun k ro hk => ?_) h'⟩
              rcases List.mem_cons.1 hk with hk | hk
              · cases hk
                refine ⟨by omega, fun r hr k' hk' => ?_⟩
                cases hr
                simp only [RC.gh, List.mem_flatMap, List.mem_map, List.mem_range] at hk'
                obtain ⟨b, ⟨j, hj, rfl⟩, hb⟩ := hk'
                simp [A1.gh] at hb
                omega
              · obtain ⟨j, hj, e⟩ := List.mem_map.1 hk
                cases e
                have : j < n := by simpa using hj
                exact ⟨by omega, fun r hr => by cases hr; simp [RC.gh]⟩
            · cases h
end
end Go.Sx

/-
  A whole function: what it hands back; its contract.
-/
namespace Go.Sx
open Go.RowKit (Below)

inductive RD where
  | v (x : AV)
  | r (c : RC)
  deriving Inhabited
def RD.den (ρ : Nat → Value) : RD → Value
  | .v x => x.den ρ
  | .r c => .agg (c.cden ρ).toArray
def rdDen (ρ : Nat → Value) : List RD → Value
  | [d] => d.den ρ
  | l => .tuple (l.map (RD.den ρ)).toArray

def resVal (C : Cfg) : ResultVar → Rd (AV × List Cmd)
  | .tmp t => .slot t fun | some v => .ret (v, []) | none => .fail
  | .cell t T => .slot t fun
    | some (.at (.one (.ptr k o))) => match C.ti T with
      | none => .fail
      | some i => .row k fun
        | some { c := .lst l, .. } =>
          let cs := (l.drop o).take i.size
          Rd.chk (o + i.size ≤ l.length) <|
            if i.k.row then let e := etaAgg cs; .ret (e.1, e.2)
            else match cs with
              | [c] => .ret (.at (.one c), [])
              | _ => .fail
        | _ => .fail
    | _ => .fail

def resD1 : S1 → AV → Rd RD
  | .v, x => Rd.chk x.pure (.ret (.v x))
  | .s es el, .at (.one (.sl k)) => .row k fun
    | some r => Rd.chk (r.es == es && r.es != 0 && r.c.pure && (match r.ap with | some e => e == el | none => false)) (.ret (.r r.c))
    | none => .fail
  | .s es _, .at (.one (.lit (.slice none 0 0))) => Rd.chk (es != 0) (.ret (.r (.lst [])))
  | .sv es, .at (.one (.sl k)) => .row k fun
    | some r => Rd.chk (r.es == es && r.es != 0 && r.c.pure) (.ret (.r r.c))
    | none => .fail
  | .sv es, .at (.one (.lit (.slice none 0 0))) => Rd.chk (es != 0) (.ret (.r (.lst [])))
  | _, _ => .fail

def resOfS (C : Cfg) (sh : Sh) (rs : List ResultVar) : Rd (List Cmd × List RD) :=
  match sh, rs with
  | .two (.one c), [x] => (resVal C x).bind fun v => (resD1 c v.1).bind fun d => .ret (v.2, [d])
  | .tup [.one c, .one .v], [x, y] => (resVal C x).bind fun v => (resVal C y).bind fun u => (resD1 c v.1).bind fun d => (resD1 .v u.1).bind fun d' => .ret (v.2 ++ u.2, [d, d'])
  | _, _ => .fail

section
variable {P : Program} {G : Glb} {C : Cfg} {w0 : World} {M : Ms} {N : Nat} {S : St} {σ : Nat → GV} {ρ : Nat → Value} {a : Act} {w : World}

theorem resVal_sound (hti : TIok P C.ti) (hg : Gam w0 M N S σ ρ a w) {x : ResultVar} {v : AV} {cm : List Cmd} (h : (resVal C x).val S = some (v, cm)) (hc : ∀ c ∈ cm, Cmd.holds P G ρ c) :
    (match x with | .tmp t => (pure (a.tmps.getD t undef) : Sem Value) | .cell t T => do loadVar T (← asAddr (a.tmps.getD t undef))).run P w = .ok (v.conc σ ρ) w := by
  cases x with
  | tmp t =>
    simp only [resVal, Rd.val] at h
    split at h
    · rename_i u hu
      cases h
      have := (hg.slot t _ hu).1
      simp [Array.getD_eq_getD_getElem?, this]
    · cases h
  | cell t T =>
    simp only [resVal, Rd.val] at h
    split at h
    · rename_i k off hs
      split at h
      · cases h
      · rename_i i hi
        simp only [Rd.val] at h
        split at h
        · rename_i l es ap hr
          obtain ⟨hlen, h⟩ := Rd.chk_val h
          simp only [decide_eq_true_eq] at hlen
          have hsl := (hg.slot t _ hs).1
          have ec : (RC.lst l).cont σ ρ = l.map (A1.conc σ ρ) := rfl
          have key : ∀ u, (Instr.loadAt T (.pointer (some ⟨(σ k).blk, (σ k).off + off, none⟩))).run P w = .ok u w → (do loadVar T (← asAddr (a.tmps.getD t undef)) : Sem Value).run P w = .ok u w := by
            intro u hu
            have e : a.tmps.getD t undef = .pointer (some ⟨(σ k).blk, (σ k).off + off, none⟩) := by
              rw [Array.getD_eq_getD_getElem?, hsl]; rfl
            rw [e]
            simpa [Instr.loadAt, Instr.sureAddr, asAddr] using hu
          refine key _ ?_
          have hone : ∀ c ∈ (l.drop off).take i.size, (c.conc σ ρ).oneCell' = true := fun c hc => by
            have : c ∈ l := List.mem_of_mem_drop (List.mem_of_mem_take hc)
            exact (hg.row k _ hr).rd.one _ (by rw [ec]; exact List.mem_map.2 ⟨c, this, rfl⟩)
          split at h
          · rename_i hk
            cases h
            obtain ⟨d, hu, hd, hi', hsz⟩ := ti_row hti hi hk
            obtain ⟨hn, hra⟩ := row_range hg hr (i := off) (m := i.size) hsz (by rw [ec]; simpa using hlen)
            rw [ec, ← List.map_drop, ← List.map_take] at hra
            obtain ⟨e1, e2⟩ := etaAgg_sound (P := P) (G := G) (σ := σ) (ρ := ρ) (l := (l.drop off).take i.size) hc hone
            rw [e1]
            exact run_loadAt_mid w _ _ T _ d hra hu hd (by rw [hi']; simp; omega)
          · rename_i hk
            split at h
            · rename_i c hcs
              cases h
              obtain ⟨d, hu, hd⟩ := ti_sc hti hi (by simpa using hk)
              have hl1 : ((l.drop off).take i.size).length = 1 := by rw [hcs]; rfl
              have hsz : 0 < i.size := by
                rw [List.length_take] at hl1; omega
              obtain ⟨hn, hra⟩ := row_range hg hr (i := off) (m := i.size) hsz (by rw [ec]; simpa using hlen)
              rw [ec, ← List.map_drop, ← List.map_take, hcs] at hra
              exact run_loadAt_one hu hd (hra 0 _ rfl)
            · cases h
        · cases h
    · cases h

theorem nilR (w : World) : SliceR w ⟨0, 0, 0, 0, true⟩ (#[] : Array Value).toList where
  nil _ := ⟨rfl, rfl, rfl⟩
  live h := by cases h
  at_ h := by cases h
  one c hc := by cases hc

theorem resD1_sound {ng : Nat} {w1 : World} {A : Nat → Prop} (hb : w0 = w1) (hMa : ∀ k, M.a k → A k ∨ k < ng) (hg : Gam w0 M N S σ ρ a w) {c : S1} {x : AV} {d : RD} (h : (resD1 c x).val S = some d) : Res1 ng w1 w A c (x.conc σ ρ) (d.den ρ) := by
  subst hb
  unfold resD1 at h
  split at h
  · obtain ⟨hp, h⟩ := Rd.chk_val h
    cases h
    exact AV.conc_pure hp σ ρ
  · rename_i es el k
    simp only [Rd.val] at h
    split at h
    · rename_i r hr
      obtain ⟨hp, h⟩ := Rd.chk_val h
      simp only [Bool.and_eq_true, beq_iff_eq, bne_iff_ne] at hp
      obtain ⟨⟨⟨h1, h2⟩, h3⟩, h4⟩ := hp
      cases h
      have hap : r.ap = some el := by
        split at h4
        · rename_i e he; rw [he, show e = el by simpa using h4]
        · cases h4
      obtain ⟨q1, q2, q3⟩ := hg.row k r hr
      have ec := RC.cont_pure h3 σ ρ
      refine ⟨σ k, (r.c.cden ρ).toArray, rfl, rfl, ?_, ?_, ?_⟩
      · rw [← ec]; exact q1
      · rw [← ec, ← h1]; exact ⟨h2, q2 h2⟩
      · rw [← ec, ← h1]; exact (q3 el hap).2
    · cases h
  · rename_i es el
    obtain ⟨hp, h⟩ := Rd.chk_val h
    cases h
    exact ⟨⟨0, 0, 0, 0, true⟩, #[], rfl, rfl, nilR _, ⟨by simpa using hp, by simp, by simp⟩, World.ownsRow_nil w _ _ _⟩
  · rename_i es k
    simp only [Rd.val] at h
    split at h
    · rename_i r hr
      obtain ⟨hp, h⟩ := Rd.chk_val h
      simp only [Bool.and_eq_true, beq_iff_eq, bne_iff_ne] at hp
      obtain ⟨⟨h1, h2⟩, h3⟩ := hp
      cases h
      obtain ⟨q1, q2, q3⟩ := hg.row k r hr
      have ec := RC.cont_pure h3 σ ρ
      refine ⟨σ k, (r.c.cden ρ).toArray, rfl, rfl, ?_, ?_, fun hn => ?_⟩
      · rw [← ec]; exact q1
      · rw [← ec, ← h1]; exact ⟨h2, q2 h2⟩
      · rcases hg.src k r hr hn with h | h
        · rcases hMa _ h with h | h
          · exact .inl h
          · exact .inr (.inr h)
        · exact .inr (.inl h)
    · cases h
  · rename_i es
    obtain ⟨hp, h⟩ := Rd.chk_val h
    cases h
    exact ⟨⟨0, 0, 0, 0, true⟩, #[], rfl, rfl, nilR _, ⟨by simpa using hp, by simp, by simp⟩, fun h => by cases h⟩
  · cases h

def rvOf (tmps : Array Value) : ResultVar → Sem Value
  | .tmp t => pure (tmps.getD t undef)
  | .cell t T => do loadVar T (← asAddr (tmps.getD t undef))

theorem run_res1 {g : ResultVar → Sem Value} {x : ResultVar} {v : Value} (h : (g x).run P w = .ok v w) :
    (do let vs ← (#[x] : Array ResultVar).mapM g; pure (if h : vs.size = 1 then vs[0] else .tuple vs) : Sem Value).run P w = .ok v w := by
  rw [show (#[x] : Array ResultVar) = [x].toArray from rfl, List.mapM_toArray]
  simp [h]
theorem run_res2 {g : ResultVar → Sem Value} {x y : ResultVar} {v u : Value} (h : (g x).run P w = .ok v w) (h' : (g y).run P w = .ok u w) :
    (do let vs ← (#[x, y] : Array ResultVar).mapM g; pure (if h : vs.size = 1 then vs[0] else .tuple vs) : Sem Value).run P w = .ok (.tuple #[v, u]) w := by
  rw [show (#[x, y] : Array ResultVar) = [x, y].toArray from rfl, List.mapM_toArray]
  simp [Sem.run_bind, Result.andThen, h, h']

theorem results_eq (fn : Func) (tmps : Array Value) : results fn tmps = (do let vs ← fn.results.mapM (rvOf tmps); pure (if h : vs.size = 1 then vs[0] else .tuple vs) : Sem Value) := by
  unfold results
  congr 1

theorem run_results1 {fn : Func} {x : ResultVar} (hr : fn.results.toList = [x]) {v : Value}
    (h : (rvOf a.tmps x).run P w = .ok v w) : (results fn a.tmps).run P w = .ok v w := by
  have hr' : fn.results = #[x] := by apply Array.ext'; exact hr
  rw [results_eq, hr']
  exact run_res1 h

theorem run_results2 {fn : Func} {x y : ResultVar} (hr : fn.results.toList = [x, y]) {v u : Value}
    (h : (rvOf a.tmps x).run P w = .ok v w) (h' : (rvOf a.tmps y).run P w = .ok u w) :
    (results fn a.tmps).run P w = .ok (.tuple #[v, u]) w := by
  have hr' : fn.results = #[x, y] := by apply Array.ext'; exact hr
  rw [results_eq, hr']
  exact run_res2 h h'

theorem resVal_sound' (hti : TIok P C.ti) (hg : Gam w0 M N S σ ρ a w) {x : ResultVar} {v : AV} {cm : List Cmd} (h : (resVal C x).val S = some (v, cm)) (hc : ∀ c ∈ cm, Cmd.holds P G ρ c) :
    (rvOf a.tmps x).run P w = .ok (v.conc σ ρ) w := by
  have := resVal_sound hti hg h hc
  cases x <;> exact this

theorem resOfS_sound {ng : Nat} {w1 : World} {A : Nat → Prop} (hb : w0 = w1) (hMa : ∀ k, M.a k → A k ∨ k < ng) (hti : TIok P C.ti) (hg : Gam w0 M N S σ ρ a w) {fn : Func} {sh : Sh} {cm : List Cmd} {ds : List RD}
    (h : (resOfS C sh fn.results.toList).val S = some (cm, ds)) (hc : ∀ c ∈ cm, Cmd.holds P G ρ c) :
    ∃ v, (results fn a.tmps).run P w = .ok v w ∧ ResR ng w1 w A sh v (rdDen ρ ds) := by
  unfold resOfS at h
  split at h
  · rename_i c x hx
    obtain ⟨⟨v, cm1⟩, hv, h⟩ := Rd.bind_val h
    obtain ⟨d, hd, h⟩ := Rd.bind_val h
    cases h
    exact ⟨_, run_results1 hx (resVal_sound' hti hg hv hc), resD1_sound hb hMa hg hd⟩
  · rename_i c x y hx
    obtain ⟨⟨v, cm1⟩, hv, h⟩ := Rd.bind_val h
    obtain ⟨⟨u, cm2⟩, hu, h⟩ := Rd.bind_val h
    obtain ⟨d, hd, h⟩ := Rd.bind_val h
    obtain ⟨d', hd', h⟩ := Rd.bind_val h
    cases h
    refine ⟨_, run_results2 hx (resVal_sound' hti hg hv fun c hcm => hc c (List.mem_append_left _ hcm)) (resVal_sound' hti hg hu fun c hcm => hc c (List.mem_append_right _ hcm)), ?_⟩
    have r1 := resD1_sound (ng := ng) hb hMa hg hd
    have r2 := resD1_sound (ng := ng) hb hMa hg hd'
    cases c with
    | v =>
      show _ = _
      rw [show v.conc σ ρ = d.den ρ from r1, show u.conc σ ρ = d'.den ρ from r2]
      rfl
    | s es el => exact ⟨_, _, _, by rw [show u.conc σ ρ = d'.den ρ from r2], rfl, r1⟩
    | sv es => exact ⟨_, _, _, by rw [show u.conc σ ρ = d'.den ρ from r2], rfl, r1⟩
    | ss n => exact r1.elim
  · cases h

/-- the end of the function: what is handed back is r -/
def Ends {P : Program} {G : Glb} {C : Cfg} (X : Cx P G C) (Q : Exit → Act → World → Prop) (rs : List ResultVar) (sh : Sh) (r : Value) : Prop :=
  ∀ (S : St) (e : Ex) (l : List Value) (cm : List Cmd) (ds : List RD), e = .nor ∨ e = .ret → (resOfS C sh rs).val S = some (cm, ds) → (∀ c ∈ cm, Cmd.holds P G (lv l) c) → rdDen (lv l) ds = r → Jd X Q S [] e l

theorem Cfg_N {C : Cfg} {n : Nat} (h : C.N = n) : C.N = n := h

theorem ctr_of {fs : FS} {f : Nat} {fn : Func} {c : Code} {Φ : List Value → Value → Prop} {sl : List (Nat × AV)} {rw : List (Nat × Option Row)}
    (hmx : P.follows .mixedOrders = true) (hti : TIok P C.ti) (hf : P.funcs[f]? = some fn) (hnm : (fn.name == "runtime.NumGoroutine") = false) (hb : fn.body = some c) (hN : fn.ntmps = C.N) (hle : fs.args.length ≤ C.N)
    (hin : inS 0 10000 fs.args.length fs.args = some (sl, rw))
    (H : ∀ (ds : List Value) (r : Value) (X : Cx P G C) (Q : Exit → Act → World → Prop), ds.length = fs.args.length → Φ ds r → Ends X Q fn.results.toList fs.res r → Jd X Q ⟨sl, rw, []⟩ [.c c] .nor (ds ++ xtr fs.args ds)) :
    Ctr P G f fs Φ := by
  intro w A vs ds r hG hA hΦ
  have hlen : ∀ (args : List S2) (vs ds : List Value), ArgsR w A args vs ds → vs.length = args.length ∧ ds.length = args.length := by
    intro args
    induction args with
    | nil => intro vs ds h; cases vs <;> cases ds <;> first | exact ⟨rfl, rfl⟩ | exact h.elim
    | cons x args ih =>
      intro vs ds h
      cases vs <;> cases ds <;> first | exact h.elim | (have := ih _ _ h.2; simp [this.1, this.2])
  obtain ⟨hvl, hdl⟩ := hlen _ _ _ hA
  right
  refine ⟨?_, ?_⟩
  · have hnm' : ¬ fn.name = "runtime.NumGoroutine" := by simpa using hnm
    simp [callFunc, Sem.run_bind, hf, hb, hnm']
  refine calls_of_wp hf hb ?_
  let M : Ms := ⟨fun _ => False, fun k => A k ∨ k < G.ng⟩
  let X : Cx P G C := { w0 := w, M, hmx, hti, hG, hM := fun _ h => h.elim, hA := fun k h => .inr h }
  obtain ⟨σ0, hσ⟩ := in_sound (w := w) (A := A) (ρ := lv (ds ++ xtr fs.args ds)) fs.args 0 10000 fs.args.length vs ds sl rw hin hA
    (fun j d hj => by
      have : j < ds.length := (List.getElem?_eq_some_iff.1 hj).1
      rw [Nat.zero_add, lv_append this]
      simp [lv, List.getD_eq_getElem?_getD, hj])
    (fun j d hj => by
      simp only [lv, List.getD_eq_getElem?_getD]
      rw [← hdl, List.getElem?_append_right (by omega), show ds.length + j - ds.length = j by omega, hj]
      rfl)
  let σ : Nat → GV := fun k => if k < 10000 then ⟨k, 0, 0, 0, false⟩ else σ0 k
  have hσge : ∀ k, 10000 ≤ k → σ k = σ0 k := fun k hk => if_neg (by omega)
  have hg : Gam w M C.N ⟨sl, rw, []⟩ σ (lv (ds ++ xtr fs.args ds)) { tmps := vs.toArray ++ Array.replicate (fn.ntmps - vs.toArray.size) undef, defers := [] } w := {
    defers := rfl
    size := by simp [hN]; omega
    slot := fun t v ht => by
      obtain ⟨j, e1, e2, e3, e4⟩ := hσ.slot t v (lk_some_mem ht)
      have hc : ∀ k ∈ v.gh, σ k = σ0 k := fun k hk => hσge k (e4 k hk)
      refine ⟨?_, AV.ok_congr hc e3⟩
      rw [AV.conc_congr hc, e1, Nat.zero_add]
      have : j < vs.length := (List.getElem?_eq_some_iff.1 e2).1
      rw [Array.getElem?_append_left (by simpa using this)]
      simpa using e2
    row := fun k r hk => by
      simp only [St.row] at hk
      cases hl : lk rw k with
      | none => rw [hl] at hk; cases hk
      | some x =>
        rw [hl] at hk
        simp at hk
        subst hk
        obtain ⟨r', e1, e2, e3, e4, e5⟩ := hσ.row k _ (lk_some_mem hl)
        cases e1
        exact rowOK_congr e4 (hσge k e2) fun k' hk' => hσge k' (e3 k' hk')
    own := fun k hk => by simp [St.own, lk] at hk
    glob := fun g hgl => by simp [σ, hgl]
    src := fun k r hk => by
      simp only [St.row] at hk
      cases hl : lk rw k with
      | none => rw [hl] at hk; cases hk
      | some x =>
        rw [hl] at hk
        simp at hk
        subst hk
        obtain ⟨r', e1, e2, e3, e4, e5⟩ := hσ.row k _ (lk_some_mem hl)
        rw [hσge k e2]
        exact fun hn => .inl (.inl (e5 hn))
    frm := Frm.refl w _ }
  refine H ds r X (bodyPost P fn fun e w' => ∃ v, e = .returned v ∧ ResR G.ng w w' A fs.res v r ∧ Below w.heap.size w w') hdl hΦ ?_ σ _ w hg
  intro S e l cm rd he hres hcm hrd σ a w' hg
  obtain ⟨v, h1, h2⟩ := resOfS_sound (G := G) (ng := G.ng) (w1 := w) (A := A) (M := M) rfl (fun k h => h) hti hg hres hcm
  rw [hrd] at h2
  have hbl := hg.frm.below (fun _ h => h)
  rcases he with rfl | rfl
  · exact ⟨hg.defers, v, h1, v, rfl, h2, hbl⟩
  · exact ⟨hg.defers, v, h1, v, rfl, h2, hbl⟩
end
end Go.Sx

/-
  A table of types, checked against the program.
-/
namespace Go.Sx

def zEq : Value → Value → Bool
  | .int k i, .int k' j => k == k' && i == j
  | .bool a, .bool b => a == b
  | .slice none 0 0, .slice none 0 0 => true
  | .pointer none, .pointer none => true
  | .string ⟨⟨a⟩⟩, .string ⟨⟨b⟩⟩ => a.isEmpty && b.isEmpty
  | _, _ => false
theorem zEq_eq {a b : Value} (h : zEq a b = true) : a = b := by
  unfold zEq at h
  split at h
  · simp only [Bool.and_eq_true, beq_iff_eq] at h; rw [h.1, h.2]
  · simp only [beq_iff_eq] at h; rw [h]
  · rfl
  · rfl
  · simp only [Bool.and_eq_true, List.isEmpty_iff] at h; rw [h.1, h.2]
  · cases h

def pEq (a b : Nat × Nat) : Bool := a.1 == b.1 && a.2 == b.2
theorem pEq_eq (a b : Nat × Nat) (h : pEq a b = true) : a = b := by
  simp only [pEq, Bool.and_eq_true, beq_iff_eq] at h
  exact Prod.ext h.1 h.2

def tkChk (P : Program) (ti : Nat → Option TI) (t : Nat) (i : TI) : Bool :=
  match i.k, P.underlying t with
  | .sc, some d => !d.isRow && (match d with | .slice _ => false | _ => true)
  | .u8, some (.int .u8) => true
  | .stg, some .string => true
  | .arr n el, some (.array m e) => n == m && el == e && i.size != 0 && (ti el).isSome
  | .str fs, some (.struct fields) => lsEq pEq (fields.toList.map (fun f => (f.offset, f.type))) fs && i.size != 0 && fs.all (fun x => (ti x.2).isSome)
  | .slc el, some (.slice e) => el == e && i.size == 1
  | _, _ => false

def isAggV : Value → Bool
  | .agg _ => true
  | _ => false

def tiChk (P : Program) (ti : Nat → Option TI) (t : Nat) (i : TI) : Bool :=
  match P.info? t with
  | none => false
  | some info => match info.zero with
    | none => false
    | some z => info.size == i.size && info.bytes == i.bytes && lsEq zEq z.cells.toList i.zero && i.zero.length == i.size && i.zero.all Value.oneCell' && (!i.k.row || isAggV z) && tkChk P ti t i

theorem tiok_of {P : Program} {l : List (Nat × TI)} (h : l.all (fun x => tiChk P (lk l) x.1 x.2) = true) : TIok P (lk l) := by
  intro t i ht
  have := List.all_eq_true.1 h _ (lk_some_mem ht)
  simp only [tiChk] at this
  split at this
  · cases this
  · rename_i info hi
    split at this
    · cases this
    · rename_i z hz
      simp only [Bool.and_eq_true, beq_iff_eq, List.all_eq_true, Bool.or_eq_true, Bool.not_eq_true'] at this
      obtain ⟨⟨⟨⟨⟨⟨h1, h2⟩, h3⟩, h4⟩, h5⟩, h6⟩, h7⟩ := this
      have hzc : z.cells.toList = i.zero := lsEq_eq (fun _ _ => zEq_eq) h3
      refine ⟨info, z, hi, h1, h2, hz, hzc, h4, h5, ?_, fun hrow => ?_⟩
      · unfold tkChk at h7
        split at h7
        · rename_i d hk hu
          rw [hk]
          simp only [Bool.and_eq_true, Bool.not_eq_true'] at h7
          refine ⟨d, hu, h7.1, fun e he => ?_⟩
          rw [he] at h7
          exact absurd h7.2 (by simp)
        · rename_i hk hu; rw [hk]; exact hu
        · rename_i hk hu; rw [hk]; exact hu
        · rename_i n el m e hk hu
          rw [hk]
          simp only [Bool.and_eq_true, beq_iff_eq, bne_iff_ne] at h7
          obtain ⟨⟨⟨a1, a2⟩, a3⟩, a4⟩ := h7
          subst a1; subst a2
          exact ⟨hu, a3, a4⟩
        · rename_i fs fields hk hu
          rw [hk]
          simp only [Bool.and_eq_true, bne_iff_ne, List.all_eq_true] at h7
          exact ⟨fields, hu, lsEq_eq pEq_eq h7.1.1, h7.1.2, h7.2⟩
        · rename_i el e hk hu
          rw [hk]
          simp only [Bool.and_eq_true, beq_iff_eq] at h7
          rw [h7.1]
          exact ⟨hu, h7.2⟩
        · cases h7
      · rcases h6 with h6 | h6
        · rw [hrow] at h6; cases h6
        · cases z with
          | agg cs =>
            rw [← hzc]; rfl
          | _ => cases h6
end Go.Sx

/-
  A whole function's contract, with its body as it lies in the program.
-/
namespace Go.Sx

def bodyOf (fn : Func) : Code := fn.body.getD .skip

section
variable {P : Program} {G : Glb} {C : Cfg}

def inSt (fs : FS) : St := match inS 0 10000 fs.args.length fs.args with
  | some (sl, rw) => ⟨sl, rw, []⟩
  | none => default

def fnOk (C : Cfg) (fs : FS) (fn : Func) : Bool :=
  !(fn.name == "runtime.NumGoroutine") && fn.body.isSome && fn.ntmps == C.N && decide (fs.args.length ≤ C.N) && (inS 0 10000 fs.args.length fs.args).isSome

theorem ctr {fs : FS} {f : Nat} {fn : Func} {Φ : List Value → Value → Prop}
    (hmx : P.follows .mixedOrders = true) (hti : TIok P C.ti) (hf : P.funcs[f]? = some fn) (hok : fnOk C fs fn = true)
    (H : ∀ (ds : List Value) (r : Value) (X : Cx P G C) (Q : Exit → Act → World → Prop), ds.length = fs.args.length → Φ ds r → Ends X Q fn.results.toList fs.res r → Jd X Q (inSt fs) [.c (bodyOf fn)] .nor (ds ++ xtr fs.args ds)) :
    Ctr P G f fs Φ := by
  simp only [fnOk, Bool.and_eq_true, Bool.not_eq_true', beq_iff_eq, decide_eq_true_eq] at hok
  obtain ⟨⟨⟨⟨h1, h2⟩, h3⟩, h4⟩, h5⟩ := hok
  obtain ⟨c, hc⟩ := Option.isSome_iff_exists.1 h2
  obtain ⟨⟨sl, rw⟩, hin⟩ := Option.isSome_iff_exists.1 h5
  refine ctr_of hmx hti hf (by simpa using h1) hc h3 h4 hin fun ds r X Q hl hΦ hE => ?_
  have := H ds r X Q hl hΦ hE
  simp only [inSt, hin, bodyOf, hc, Option.getD_some] at this
  exact this

/-- the end of a function -/
theorem Ends.fin {X : Cx P G C} {Q : Exit → Act → World → Prop} {rs : List ResultVar} {sh : Sh} {r : Value} (h : Ends X Q rs sh r) {S : St} {e : Ex} {l : List Value} {cm : List Cmd} {ds : List RD}
    (he : e = .nor ∨ e = .ret) (hr : (resOfS C sh rs).val S = some (cm, ds)) (hc : VC P G cm l fun _ => rdDen (lv l) ds = r) (hcm : cm.all (fun c => c.tgt.isNone) = true) : Jd X Q S [] e l := by
  have : (∀ c ∈ cm, c.holds P G (lv l)) ∧ rdDen (lv l) ds = r := by
    clear hr h
    induction cm with
    | nil => exact ⟨by simp, hc⟩
    | cons c cm ih =>
      simp only [List.all_cons, Bool.and_eq_true] at hcm
      simp only [VC] at hc
      cases ht : c.tgt with
      | some v => rw [ht] at hcm; cases hcm.1
      | none =>
        rw [ht] at hc
        obtain ⟨h1, h2⟩ := ih hc.2 hcm.2
        refine ⟨fun c' hc' => ?_, h2⟩
        rcases List.mem_cons.1 hc' with rfl | hc'
        · exact hc.1
        · exact h1 c' hc'
  exact h S e l cm ds he hr this.1 this.2
end
end Go.Sx
