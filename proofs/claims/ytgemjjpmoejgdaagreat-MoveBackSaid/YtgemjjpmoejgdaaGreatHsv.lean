/- The example of chapter 18. -/
import Derived.Test.YtgemjjpmoejgdaaGreatHsu
import Derived.Deep.CutRange
namespace Go.Proofs.YtgemjjpmoejgdaaGreat
open Go.RowKit
set_option maxRecDepth 100000
set_option linter.unusedVariables false

theorem arm_key {E : G} {L : Lab} {w : World} {S : St} (hg : Good E L S w) (n : Int) : ∀ W, Below w.heap.size w W → Calls Tryz.prog 50 #[.pointer (some ⟨E.p, 0, none⟩), .int .i64 n] W fun e w' => e = .returned (.int .i64 (E.cf.key n)) ∧ Below W.heap.size W w' :=
  fun W hW => (plan_Key hg.ok E.p n W (hg.below hW).pl).mono fun _ _ h => h.below
theorem keyWord_lt (g v s : Int) : keyWord g v s < 18446744073709551616 := packed_lt [32, 16, 16] [g, v, s] (by decide) rfl
theorem St.touch_m (S : St) (i : Int) : (S.touch i).m = S.m := by unfold St.touch; split <;> rfl
def leaveB (g v hg hv hs s : Int) : Bool := decide (hg = g ∧ (v < hv ∨ (hv = v ∧ ¬ hs = s)))
theorem move_leave (g v n hg hv hs s : Int) (w : World) : Calls Tryz.prog 39 #[.agg #[.int .i64 g, .int .i64 v, .int .i64 n], .agg #[.int .i64 hg, .int .i64 hv, .int .i64 hs], .int .i64 s] w fun e w' => e = .returned (.bool (leaveB g v hg hv hs s)) ∧ Below w.heap.size w w' := by
  have hb : Below w.heap.size w ((w.alloc (.cells #[.int .i64 g, .int .i64 v, .int .i64 n] 56)).alloc (.cells #[.int .i64 hg, .int .i64 hv, .int .i64 hs] 83)) := ((Below.refl _ _).alloc (Nat.le_refl _) _).alloc (by simp) _
  have HB := Go.Lib.hid hb
  clear hb
  by_cases h1 : hg = g
  · subst h1
    by_cases h2 : v < hv
    · have e : leaveB hg v hg hv hs s = true := decide_eq_true ⟨rfl, .inl h2⟩
      have h3 : ¬ hv = v := by omega
      rw [e]
      clear e
      go_enter Tryz.func39, Tryz.ntmps39
      go_wp2_with fail
      go_ret
      exact ⟨rfl, HB.out⟩
    · by_cases h3 : hv = v
      · subst h3
        have e : leaveB hg hv hg hv hs s = (hs != s) := by unfold leaveB; by_cases h : hs = s <;> simp [h]
        rw [e]
        clear e
        go_enter Tryz.func39, Tryz.ntmps39
        go_wp2_with fail
        all_goals (go_ret; exact ⟨rfl, HB.out⟩)
      · have e : leaveB hg v hg hv hs s = false := decide_eq_false (by omega)
        rw [e]
        clear e
        go_enter Tryz.func39, Tryz.ntmps39
        go_wp2_with fail
        go_ret
        exact ⟨rfl, HB.out⟩
  · have e : leaveB g v hg hv hs s = false := decide_eq_false (by omega)
    rw [e]
    clear e
    go_enter Tryz.func39, Tryz.ntmps39
    go_wp2_with fail
    go_ret
    exact ⟨rfl, HB.out⟩
set_option maxHeartbeats 1000000 in
theorem law18_sp1 {E : G} {t n : Nat} {L : Lab} {w : World} (b : Nat) :
    ConSim c18 (prApp c18 spE) E t isHe n L w (.func (.func 134) #[] #[]) (.ret (.user (b, 0))) := by
  refine ⟨_, _, rfl, enters_of Tryz.func134 (by kernel_rfl) rfl, ?_⟩
  intro a L' w' S ha hx hg hbd
  cases a with
  | he nn gg ee =>
    rw [app_ret, prApp_user] at hbd ⊢
    rw [show spE (b, 0) (.he nn gg ee) S = (S, none) from rfl]
    have hb : Below w'.heap.size w' (w'.alloc (.cells #[.int .i64 nn, .int .i64 gg] 46)) := (Below.refl _ _).alloc (Nat.le_refl _) _
    have HG := Go.Lib.hid (hg.below hb)
    have HD := Go.Lib.hid (below_did hb t L')
    show Calls _ _ #[_, _] _ _
    clear hg hbd hx ha
    go_enter Tryz.func134, Tryz.ntmps134
    go_wp2
    go_ret
    refine ⟨_, L', rfl, HD.out, HG.out, ?_⟩
    cases n with
    | zero => trivial
    | succ n => rfl
  | _ => exact absurd ha (by simp [isHe])
set_option maxHeartbeats 1000000 in
theorem law18_sp2 {E : G} {t n : Nat} {L : Lab} {w : World} (b : Nat) :
    ConSim c18 (prApp c18 spE) E t isE n L w (.func (.func 135) #[] #[.pointer (some ⟨b, 0, none⟩)]) (.ret (.user (b, 0))) := by
  refine ⟨_, _, rfl, enters_of Tryz.func135 (by kernel_rfl) rfl, ?_⟩
  intro a L' w' S ha hx hg hbd
  cases a with
  | e x =>
    rw [app_ret, prApp_user] at hbd ⊢
    by_cases hp : decide (x = 0) = true ∧ S.knows (b, 0)
    · rw [show spE (b, 0) (.e x) S = (S.setR (b, 0) (.bool true), none) from onE_e _ _ _ _ _ hp.1 hp.2]
      obtain rfl := of_decide_eq_true hp.1
      obtain ⟨⟨u1, c1⟩, f1, l1⟩ := hg.knows hp.2
      have HG := Go.Lib.hid (hg.setR hp.2 (.bool true))
      have HD := Go.Lib.hid ((hg.shr_setR hp.2 (.bool true)).did t)
      show Calls _ _ #[_, _] _ _
      clear hg hbd hx hp ha
      go_enter Tryz.func135, Tryz.ntmps135
      go_wp2
      go_ret
      refine ⟨_, L', rfl, HD.out, HG.out, ?_⟩
      cases n with
      | zero => trivial
      | succ n => rfl
    · rw [show spE (b, 0) (.e x) S = (S.burst, none) from if_neg hp] at hbd
      exact (St.burst_no hbd).elim
  | _ => exact absurd ha (by simp [isE])
theorem St.get_congr {S T : St} (hm : S.m = T.m) (hn : S.n = T.n) (j : Int) : S.get j = T.get j := by
  obtain ⟨n, m, c, l, r, s⟩ := S
  obtain ⟨n', m', c', l', r', s'⟩ := T
  dsimp only at hm hn
  subst hm; subst hn
  rfl
/-- While the keys of the two tickets are read: what is there, beside what the slots hold. -/
structure J16 (w0 : World) (E : G) (S2 : St) (env : List (Nat × List Value)) (listed : Array Bool) (a : Act) (w : World) : Prop where
  ex : ∃ L S, Good E L S w ∧ S.m = S2.m ∧ S.n = S2.n ∧ S.cnt ≤ S2.cnt + 5 + (if listed.getD 8 true then 1 else 0) + (if listed.getD 18 true then 1 else 0) ∧ Env L w env ∧ Below w0.heap.size w0 w ∧ (∀ b, b < w0.heap.size → L b = 0) ∧
    (listed.getD 20 true = true → ∃ g, slotOf a 10 = .pointer (some ⟨g, 0, none⟩) ∧ (∀ i, i < 3 → S.knows (g, i)) ∧ (listed.getD 22 true = true → S.reads (g, 0) (.int .i64 1) ∧ S.reads (g, 1) (.int .i64 0) ∧ S.reads (g, 2) (.int .i64 0))) ∧
    (listed.getD 21 true = true → ∃ g, slotOf a 11 = .pointer (some ⟨g, 0, none⟩) ∧ (∀ i, i < 3 → S.knows (g, i)) ∧ (listed.getD 23 true = true → S.reads (g, 0) (.int .i64 1) ∧ S.reads (g, 1) (.int .i64 1) ∧ S.reads (g, 2) (.int .i64 0))) ∧
    (listed.getD 20 true = true → listed.getD 21 true = true → slotOf a 10 ≠ slotOf a 11) ∧ (listed.getD 22 true = true → listed.getD 20 true = true) ∧ (listed.getD 23 true = true → listed.getD 21 true = true)
theorem J16.quiet {w0 : World} {E : G} {S2 : St} {env : List (Nat × List Value)} {listed : Array Bool} {a : Act} {w w' : World} {i d : Nat} {v : Value} (h : J16 w0 E S2 env listed a w) (hi : i ≠ 8 ∧ i ≠ 18 ∧ i ≠ 20 ∧ i ≠ 21 ∧ i ≠ 22 ∧ i ≠ 23) (hd : d ≠ 10 ∧ d ≠ 11) (hb : Below w.heap.size w w') :
    J16 w0 E S2 env (listed.setIfInBounds i true) (a.put (some d) v) w' := by
  obtain ⟨L, S, hg, hm, hn, hc, he, hbw, hold, h10, h11, hne, o22, o23⟩ := h.ex
  refine ⟨L, S, hg.below hb, hm, hn, ?_, he.below hb, hbw.trans (hb.mono hbw.size), hold, ?_, ?_, ?_, ?_, ?_⟩
  · rw [getD_set_other _ (Ne.symm hi.1), getD_set_other _ (Ne.symm hi.2.1)]; exact hc
  · rw [getD_set_other _ (Ne.symm hi.2.2.1), getD_set_other _ (Ne.symm hi.2.2.2.2.1), slot_put_other (Ne.symm hd.1)]; exact h10
  · rw [getD_set_other _ (Ne.symm hi.2.2.2.1), getD_set_other _ (Ne.symm hi.2.2.2.2.2), slot_put_other (Ne.symm hd.2)]; exact h11
  · rw [getD_set_other _ (Ne.symm hi.2.2.1), getD_set_other _ (Ne.symm hi.2.2.2.1), slot_put_other (Ne.symm hd.1), slot_put_other (Ne.symm hd.2)]; exact hne
  · rw [getD_set_other _ (Ne.symm hi.2.2.1), getD_set_other _ (Ne.symm hi.2.2.2.2.1)]; exact o22
  · rw [getD_set_other _ (Ne.symm hi.2.2.2.1), getD_set_other _ (Ne.symm hi.2.2.2.2.2)]; exact o23
theorem J16.load {w0 : World} {E : G} {S2 : St} {env : List (Nat × List Value)} {listed : Array Bool} {a : Act} {w : World} {i d : Nat} {v : Value} (j : Int) (h : J16 w0 E S2 env listed a w) (h2 : S2.cnt ≤ 2000) (hi : i = 8 ∨ i = 18) (hun : listed.getD i true = false) (hd : d ≠ 10 ∧ d ≠ 11) :
    ∃ L S, Good E L S w ∧ S.get j = S2.get j ∧ (S.touch j).cnt ≤ 4611686018427387904 ∧ ∀ w', Good E L (S.touch j) w' → Shr L w L w' → J16 w0 E S2 env (listed.setIfInBounds i true) (a.put (some d) v) w' := by
  obtain ⟨L, S, hg, hm, hn, hc, he, hbw, hold, h10, h11, hne, o22, o23⟩ := h.ex
  have ht := St.touch_cnt S j
  have hcc : S.cnt ≤ S2.cnt + 7 := by
    refine Nat.le_trans hc ?_
    split <;> split <;> omega
  have hm' : ∀ S : St, (S.touch j).m = S.m ∧ (S.touch j).n = S.n := fun S => by unfold St.touch; split <;> exact ⟨rfl, rfl⟩
  refine ⟨L, S, hg, St.get_congr hm hn j, by omega, fun w' hg' hs' => ⟨L, S.touch j, hg', (hm' S).1.trans hm, (hm' S).2.trans hn, ?_, he.shr hs', (hs'.did 0).below_old hbw (Nat.le_refl _) hold, hold, ?_, ?_, ?_, ?_, ?_⟩⟩
  · rcases hi with rfl | rfl
    · rw [getD_set_other _ (show (18 : Nat) ≠ 8 by decide), getD_set_true, if_pos rfl]
      rw [hun] at hc
      have : S.cnt ≤ S2.cnt + 5 + 0 + (if listed.getD 18 true then 1 else 0) := hc
      omega
    · rw [getD_set_other _ (show (8 : Nat) ≠ 18 by decide), getD_set_true, if_pos rfl]
      rw [hun] at hc
      have : S.cnt ≤ S2.cnt + 5 + (if listed.getD 8 true then 1 else 0) + 0 := hc
      omega
  · rw [getD_set_other _ (by omega), getD_set_other _ (by omega), slot_put_other (Ne.symm hd.1)]
    unfold St.knows St.reads
    rw [St.touch_reg]
    exact h10
  · rw [getD_set_other _ (by omega), getD_set_other _ (by omega), slot_put_other (Ne.symm hd.2)]
    unfold St.knows St.reads
    rw [St.touch_reg]
    exact h11
  · rw [getD_set_other _ (by omega), getD_set_other _ (by omega), slot_put_other (Ne.symm hd.1), slot_put_other (Ne.symm hd.2)]; exact hne
  · rw [getD_set_other _ (by omega), getD_set_other _ (by omega)]; exact o22
  · rw [getD_set_other _ (by omega), getD_set_other _ (by omega)]; exact o23
theorem St.newR_old {S : St} {b : Nat} {vs : List Value} {x : Nat × Nat} (h : S.knows x) : (S.newR b vs).knows x := by
  obtain ⟨p, hp, e⟩ := List.mem_map.1 h
  exact List.mem_map.2 ⟨p, List.mem_append.2 (.inr hp), e⟩
theorem St.newR_reads_old {S : St} {b : Nat} {vs : List Value} {x : Nat × Nat} {v : Value} (h : S.reads x v) : (S.newR b vs).reads x v := List.mem_append.2 (.inr h)
theorem J16.alloc {w0 : World} {E : G} {S2 : St} {env : List (Nat × List Value)} {listed : Array Bool} {a : Act} {w : World} {i d : Nat} (ty : TypeId) (h : J16 w0 E S2 env listed a w) (hi : (i = 20 ∧ d = 10) ∨ (i = 21 ∧ d = 11)) (hun : listed.getD i true = false) (hds : d < a.tmps.size) :
    J16 w0 E S2 env (listed.setIfInBounds i true) (a.put (some d) (.pointer (some ⟨w.heap.size, 0, none⟩))) (w.alloc (.cells #[.int .i64 0, .int .i64 0, .int .i64 0] ty)) := by
  obtain ⟨L, S, hg, hm, hn, hc, he, hbw, hold, h10, h11, hne, o22, o23⟩ := h.ex
  obtain ⟨hg1, hs1⟩ := hg.newR [.int .i64 0, .int .i64 0, .int .i64 0] ty
  have hlt : ∀ g o, S.knows (g, o) → g < w.heap.size := fun g o hk => by
    obtain ⟨⟨u, hu⟩, _⟩ := hg.knows hk
    exact cell_lt hu
  have hkn : ∀ j, j < 3 → (S.newR w.heap.size [.int .i64 0, .int .i64 0, .int .i64 0]).knows (w.heap.size, j) := fun j hj => St.newR_knows S _ _ hj
  have hne' : ∀ g o, S.knows (g, o) → Value.pointer (some ⟨w.heap.size, 0, none⟩) ≠ Value.pointer (some ⟨g, 0, none⟩) := fun g o hk e => by
    have := hlt g o hk
    injection e with e; injection e with e; injection e with e; omega
  rcases hi with ⟨rfl, rfl⟩ | ⟨rfl, rfl⟩
  · refine ⟨_, _, hg1, hm, hn, ?_, he.shr hs1, (hs1.did 0).below_old hbw (Nat.le_refl _) hold, fun b hb => (hs1.lab b (Nat.lt_of_lt_of_le hb hbw.size)).trans (hold b hb), ?_, ?_, ?_, ?_, ?_⟩
    · rw [getD_set_other _ (by omega), getD_set_other _ (by omega)]; exact hc
    · intro _
      refine ⟨w.heap.size, slot_put_same hds, hkn, ?_⟩
      rw [getD_set_other _ (by omega)]
      intro q
      have := o22 q
      rw [hun] at this; cases this
    · rw [getD_set_other _ (by omega), getD_set_other _ (by omega), slot_put_other (by omega)]
      intro q
      obtain ⟨g, e1, e2, e3⟩ := h11 q
      exact ⟨g, e1, fun i hi => St.newR_old (e2 i hi), fun q2 => ⟨St.newR_reads_old (e3 q2).1, St.newR_reads_old (e3 q2).2.1, St.newR_reads_old (e3 q2).2.2⟩⟩
    · intro _
      rw [getD_set_other _ (by omega), slot_put_same hds, slot_put_other (by omega)]
      intro q
      obtain ⟨g, e1, e2, e3⟩ := h11 q
      rw [e1]
      exact hne' g 0 (e2 0 (by omega))
    · intro _; exact getD_set_true _ _
    · rw [getD_set_other _ (by omega), getD_set_other _ (by omega)]; exact o23
  · refine ⟨_, _, hg1, hm, hn, ?_, he.shr hs1, (hs1.did 0).below_old hbw (Nat.le_refl _) hold, fun b hb => (hs1.lab b (Nat.lt_of_lt_of_le hb hbw.size)).trans (hold b hb), ?_, ?_, ?_, ?_, ?_⟩
    · rw [getD_set_other _ (by omega), getD_set_other _ (by omega)]; exact hc
    · rw [getD_set_other _ (by omega), getD_set_other _ (by omega), slot_put_other (by omega)]
      intro q
      obtain ⟨g, e1, e2, e3⟩ := h10 q
      exact ⟨g, e1, fun i hi => St.newR_old (e2 i hi), fun q2 => ⟨St.newR_reads_old (e3 q2).1, St.newR_reads_old (e3 q2).2.1, St.newR_reads_old (e3 q2).2.2⟩⟩
    · intro _
      refine ⟨w.heap.size, slot_put_same hds, hkn, ?_⟩
      rw [getD_set_other _ (by omega)]
      intro q
      have := o23 q
      rw [hun] at this; cases this
    · intro q _
      rw [getD_set_other _ (by omega)] at q
      rw [slot_put_same hds, slot_put_other (by omega)]
      obtain ⟨g, e1, e2, e3⟩ := h10 q
      rw [e1]
      exact Ne.symm (hne' g 0 (e2 0 (by omega)))
    · rw [getD_set_other _ (by omega), getD_set_other _ (by omega)]; exact o22
    · intro _; exact getD_set_true _ _
theorem St.setR_reads_other {S : St} {a b : Nat × Nat} {u v : Value} (h : S.reads a u) (hne : a ≠ b) : (S.setR b v).reads a u :=
  List.mem_map.2 ⟨(a, u), h, by rw [if_neg hne]⟩
theorem J16.store22 {w0 : World} {E : G} {S2 : St} {env : List (Nat × List Value)} {listed : Array Bool} {a : Act} {w : World} (h : J16 w0 E S2 env listed a w) (hl : listed.getD 20 true = true) :
    ∃ g u0 u1 u2, slotOf a 10 = .pointer (some ⟨g, 0, none⟩) ∧ w.cell? ⟨g, 0, none⟩ = some u0 ∧ w.cell? ⟨g, 1, none⟩ = some u1 ∧ w.cell? ⟨g, 2, none⟩ = some u2 ∧ w.frozen? ⟨g, 0, none⟩ = false ∧ w.frozen? ⟨g, 1, none⟩ = false ∧ w.frozen? ⟨g, 2, none⟩ = false ∧
      J16 w0 E S2 env (listed.setIfInBounds 22 true) a (((w.setCell ⟨g, 0, none⟩ (.int .i64 1)).setCell ⟨g, 1, none⟩ (.int .i64 0)).setCell ⟨g, 2, none⟩ (.int .i64 0)) := by
  obtain ⟨L, S, hg, hm, hn, hc, he, hbw, hold, h10, h11, hne, o22, o23⟩ := h.ex
  obtain ⟨g, e10, hk, _⟩ := h10 hl
  obtain ⟨⟨u0, c0⟩, f0, l0⟩ := hg.knows (hk 0 (by omega))
  obtain ⟨⟨u1, c1⟩, f1, _⟩ := hg.knows (hk 1 (by omega))
  obtain ⟨⟨u2, c2⟩, f2, _⟩ := hg.knows (hk 2 (by omega))
  have k0 := hk 0 (by omega)
  have k1 : (S.setR (g, 0) (.int .i64 1)).knows (g, 1) := St.knows_setR.2 (hk 1 (by omega))
  have k2 : ((S.setR (g, 0) (.int .i64 1)).setR (g, 1) (.int .i64 0)).knows (g, 2) := St.knows_setR.2 (St.knows_setR.2 (hk 2 (by omega)))
  have s0 := hg.shr_setR k0 (.int .i64 1)
  have hg0 := hg.setR k0 (.int .i64 1)
  have s1 := hg0.shr_setR k1 (.int .i64 0)
  have hg1 := hg0.setR k1 (.int .i64 0)
  have s2 := hg1.shr_setR k2 (.int .i64 0)
  have hg2 := hg1.setR k2 (.int .i64 0)
  refine ⟨g, u0, u1, u2, e10, c0, c1, c2, f0, f1, f2, ⟨L, _, hg2, hm, hn, ?_, ((he.shr s0).shr s1).shr s2, (s2.did 0).below_old ((s1.did 0).below_old ((s0.did 0).below_old hbw (Nat.le_refl _) hold) (Nat.le_refl _) hold) (Nat.le_refl _) hold, hold, ?_, ?_, ?_, ?_, ?_⟩⟩
  · rw [getD_set_other _ (by omega), getD_set_other _ (by omega)]; exact hc
  · intro _
    refine ⟨g, e10, fun i hi => St.knows_setR.2 (St.knows_setR.2 (St.knows_setR.2 (hk i hi))), fun _ => ⟨?_, ?_, St.setR_reads k2⟩⟩
    · exact St.setR_reads_other (St.setR_reads_other (St.setR_reads k0) (by simp)) (by simp)
    · exact St.setR_reads_other (St.setR_reads k1) (by simp)
  · rw [getD_set_other _ (by omega), getD_set_other _ (by omega)]
    intro q
    obtain ⟨g', e1, e2, e3⟩ := h11 q
    have hgn : g' ≠ g := fun e => hne hl q (by rw [e10, e1, e])
    refine ⟨g', e1, fun i hi => St.knows_setR.2 (St.knows_setR.2 (St.knows_setR.2 (e2 i hi))), fun q2 => ?_⟩
    have hx : ∀ i v, S.reads (g', i) v → (((S.setR (g, 0) (.int .i64 1)).setR (g, 1) (.int .i64 0)).setR (g, 2) (.int .i64 0)).reads (g', i) v := fun i v hr =>
      St.setR_reads_other (St.setR_reads_other (St.setR_reads_other hr (by simp [hgn])) (by simp [hgn])) (by simp [hgn])
    exact ⟨hx _ _ (e3 q2).1, hx _ _ (e3 q2).2.1, hx _ _ (e3 q2).2.2⟩
  · rw [getD_set_other _ (by omega), getD_set_other _ (by omega)]; exact hne
  · intro _; rw [getD_set_other _ (show (20 : Nat) ≠ 22 by decide)]; exact hl
  · rw [getD_set_other _ (by omega), getD_set_other _ (by omega)]; exact o23
theorem J16.store23 {w0 : World} {E : G} {S2 : St} {env : List (Nat × List Value)} {listed : Array Bool} {a : Act} {w : World} (h : J16 w0 E S2 env listed a w) (hl : listed.getD 21 true = true) :
    ∃ g u0 u1 u2, slotOf a 11 = .pointer (some ⟨g, 0, none⟩) ∧ w.cell? ⟨g, 0, none⟩ = some u0 ∧ w.cell? ⟨g, 1, none⟩ = some u1 ∧ w.cell? ⟨g, 2, none⟩ = some u2 ∧ w.frozen? ⟨g, 0, none⟩ = false ∧ w.frozen? ⟨g, 1, none⟩ = false ∧ w.frozen? ⟨g, 2, none⟩ = false ∧
      J16 w0 E S2 env (listed.setIfInBounds 23 true) a (((w.setCell ⟨g, 0, none⟩ (.int .i64 1)).setCell ⟨g, 1, none⟩ (.int .i64 1)).setCell ⟨g, 2, none⟩ (.int .i64 0)) := by
  obtain ⟨L, S, hg, hm, hn, hc, he, hbw, hold, h10, h11, hne, o22, o23⟩ := h.ex
  obtain ⟨g, e10, hk, _⟩ := h11 hl
  obtain ⟨⟨u0, c0⟩, f0, l0⟩ := hg.knows (hk 0 (by omega))
  obtain ⟨⟨u1, c1⟩, f1, _⟩ := hg.knows (hk 1 (by omega))
  obtain ⟨⟨u2, c2⟩, f2, _⟩ := hg.knows (hk 2 (by omega))
  have k0 := hk 0 (by omega)
  have k1 : (S.setR (g, 0) (.int .i64 1)).knows (g, 1) := St.knows_setR.2 (hk 1 (by omega))
  have k2 : ((S.setR (g, 0) (.int .i64 1)).setR (g, 1) (.int .i64 1)).knows (g, 2) := St.knows_setR.2 (St.knows_setR.2 (hk 2 (by omega)))
  have s0 := hg.shr_setR k0 (.int .i64 1)
  have hg0 := hg.setR k0 (.int .i64 1)
  have s1 := hg0.shr_setR k1 (.int .i64 1)
  have hg1 := hg0.setR k1 (.int .i64 1)
  have s2 := hg1.shr_setR k2 (.int .i64 0)
  have hg2 := hg1.setR k2 (.int .i64 0)
  refine ⟨g, u0, u1, u2, e10, c0, c1, c2, f0, f1, f2, ⟨L, _, hg2, hm, hn, ?_, ((he.shr s0).shr s1).shr s2, (s2.did 0).below_old ((s1.did 0).below_old ((s0.did 0).below_old hbw (Nat.le_refl _) hold) (Nat.le_refl _) hold) (Nat.le_refl _) hold, hold, ?_, ?_, ?_, ?_, ?_⟩⟩
  · rw [getD_set_other _ (by omega), getD_set_other _ (by omega)]; exact hc
  · rw [getD_set_other _ (by omega), getD_set_other _ (by omega)]
    intro q
    obtain ⟨g', e1, e2, e3⟩ := h10 q
    have hgn : g' ≠ g := fun e => hne q hl (by rw [e10, e1, e])
    refine ⟨g', e1, fun i hi => St.knows_setR.2 (St.knows_setR.2 (St.knows_setR.2 (e2 i hi))), fun q2 => ?_⟩
    have hx : ∀ i v, S.reads (g', i) v → (((S.setR (g, 0) (.int .i64 1)).setR (g, 1) (.int .i64 1)).setR (g, 2) (.int .i64 0)).reads (g', i) v := fun i v hr =>
      St.setR_reads_other (St.setR_reads_other (St.setR_reads_other hr (by simp [hgn])) (by simp [hgn])) (by simp [hgn])
    exact ⟨hx _ _ (e3 q2).1, hx _ _ (e3 q2).2.1, hx _ _ (e3 q2).2.2⟩
  · intro _
    refine ⟨g, e10, fun i hi => St.knows_setR.2 (St.knows_setR.2 (St.knows_setR.2 (hk i hi))), fun _ => ⟨?_, ?_, St.setR_reads k2⟩⟩
    · exact St.setR_reads_other (St.setR_reads_other (St.setR_reads k0) (by simp)) (by simp)
    · exact St.setR_reads_other (St.setR_reads k1) (by simp)
  · rw [getD_set_other _ (by omega), getD_set_other _ (by omega)]; exact hne
  · rw [getD_set_other _ (by omega), getD_set_other _ (by omega)]; exact o22
  · intro _; rw [getD_set_other _ (show (21 : Nat) ≠ 23 by decide)]; exact hl
/-- What the slots hold while the keys of the two tickets are read. -/
def tab16 (k p a g7 c7 g9 c9 kw0 kw1 : Nat) : List (Nat × Nat × Value) := [(0, 70, .pointer (some ⟨k, 0, none⟩)), (1, 71, .pointer (some ⟨a, 0, none⟩)), (2, 72, .pointer (some ⟨k, 0, none⟩)), (3, 73, .pointer (some ⟨p, 0, none⟩)), (4, 74, .slice (some ⟨g7, 0, none⟩) 1 c7), (5, 75, .pointer (some ⟨g7, 0, none⟩)), (6, 76, .int .i64 0), (7, 77, .int .i64 (c18.key 0)), (8, 78, .int .u64 (kw0 : Nat)), (9, 79, .agg #[.int .i64 1, .int .i64 0, .int .i64 0]), (10, 80, .pointer (some ⟨k, 0, none⟩)), (11, 81, .pointer (some ⟨a, 0, none⟩)), (12, 82, .pointer (some ⟨k, 0, none⟩)), (13, 83, .pointer (some ⟨p, 0, none⟩)), (14, 84, .slice (some ⟨g9, 0, none⟩) 1 c9), (15, 85, .pointer (some ⟨g9, 0, none⟩)), (16, 86, .int .i64 1), (17, 87, .int .i64 (c18.key 1)), (18, 88, .int .u64 (kw1 : Nat)), (19, 89, .agg #[.int .i64 1, .int .i64 1, .int .i64 0])]
theorem tab16_r (k p a g7 c7 g9 c9 kw0 kw1 : Nat) : (tab16 k p a g7 c7 g9 c9 kw0 kw1).map Prod.fst = List.range (tab16 k p a g7 c7 g9 c9 kw0 kw1).length := rfl
theorem tab16_n (k p a g7 c7 g9 c9 kw0 kw1 : Nat) : ((tab16 k p a g7 c7 g9 c9 kw0 kw1).map fun p => p.2.1).Nodup := by
  show [70, 71, 72, 73, 74, 75, 76, 77, 78, 79, 80, 81, 82, 83, 84, 85, 86, 87, 88, 89].Nodup
  decide
theorem tab16_c20 (k p a g7 c7 g9 c9 kw0 kw1 : Nat) : (tab16 k p a g7 c7 g9 c9 kw0 kw1).all (fun p => decide (p.1 ≠ 20 ∧ p.2.1 ≠ 10)) = true := rfl
theorem tab16_c21 (k p a g7 c7 g9 c9 kw0 kw1 : Nat) : (tab16 k p a g7 c7 g9 c9 kw0 kw1).all (fun p => decide (p.1 ≠ 21 ∧ p.2.1 ≠ 11)) = true := rfl
theorem tab16_s22 (k p a g7 c7 g9 c9 kw0 kw1 : Nat) : (tab16 k p a g7 c7 g9 c9 kw0 kw1).all (fun p => decide (p.1 ≠ 22)) = true := rfl
theorem tab16_s23 (k p a g7 c7 g9 c9 kw0 kw1 : Nat) : (tab16 k p a g7 c7 g9 c9 kw0 kw1).all (fun p => decide (p.1 ≠ 23)) = true := rfl
set_option maxHeartbeats 8000000 in
theorem law18_speaks (w : World) : Calls Tryz.prog 38 #[] w fun e w' => e = .returned (.bool true) ∧ Below w.heap.size w w' := by
  have HN : Hid (∀ w, Calls Tryz.prog 75 #[.agg #[.int .i64 2, .int .i64 1, .int .i64 1, .int .i64 2, .int .i64 2, .int .i64 0, .int .i64 0, .int .i64 0, .int .i64 1, .int .i64 1, .int .i64 1, .int .i64 0, .int .i64 0]] w fun e w' => ∃ E L, e = .returned (.tuple #[.pointer (some ⟨E.k, 0, none⟩), .int .i64 0]) ∧ Born c18 w E L w') := fun w => core_new c18 c18_ok w
  go_enter Tryz.func38, Tryz.ntmps38
  go_wp2_with fail
  refine (HN.out _).mono ?_
  rintro e w1 ⟨E, L, rfl, hborn⟩
  obtain ⟨hcf, hg, hbl, hold, hnr, hek⟩ := hborn
  obtain ⟨k, p, a, cc, cf⟩ := E
  obtain rfl : cf = c18 := hcf
  obtain ⟨hg1, hs1⟩ := hg.newR [.bool false] 4
  have HB1 := Go.Lib.hid ((hs1.did 0).below_old hbl (Nat.le_refl _) hold)
  have HOLD0 := Go.Lib.hid hold; have HS1 := Go.Lib.hid hs1; have HBL := Go.Lib.hid hbl
  obtain ⟨m1, S1, hm1, hr1, hp1⟩ := sp18_start w1.heap.size
  obtain ⟨m2, S2, hm2, hr2, hp2⟩ := sp18_move w1.heap.size S1 hp1
  have HM1 := Go.Lib.hid hm1; have HM2 := Go.Lib.hid hm2
  have HR1 := Go.Lib.hid hr1; have HR2 := Go.Lib.hid hr2; have HP2 := Go.Lib.hid hp2
  have HST := Go.Lib.hid (start_any (t := 0) (m := 90) (wk := 0) (ticks := 5) (shard := 0) (user := 0) spE_mono hg1 (law18_sp1 w1.heap.size) (by decide) (by decide))
  clear hg hbl hold hnr hek HN hg1 hs1 hr1 hr2 hp1 hp2 hm1 hm2
  go_wp2_with fail
  generalize w1.alloc (.cells #[.bool false] 4) = W1 at *
  generalize (fun b => if b = w1.heap.size then 5 else L b) = L1 at *
  have HOLD1 : Hid (∀ b, b < w.heap.size → L1 b = 0) := Go.Lib.hid (fun b hb => (HS1.out.lab b (Nat.lt_of_lt_of_le hb HBL.out.size)).trans (HOLD0.out b hb))
  clear HS1 HBL HOLD0
  generalize w1.heap.size = ob at *
  refine HST.out.mono ?_
  rintro e w2 ⟨v, L2, rfl, hd2, hg2, hc2⟩
  obtain ⟨f1, cap1, rfl, _, _⟩ := id hc2
  have HB2 := Go.Lib.hid (hd2.below_old HB1.out (Nat.le_refl _) HOLD1.out)
  have HOLD2 : Hid (∀ b, b < w.heap.size → L2 b = 0) := Go.Lib.hid (fun b hb => (hd2.lab b (Nat.lt_of_lt_of_le hb HB1.out.size)).trans (HOLD1.out b hb))
  have HC1 := Go.Lib.hid hc2
  have HMV := Go.Lib.hid (migrate_any (t := 1) (m := 90) (wk := 0) (n := 0) (g := 1) (s := 1) spE_mono hg2 (law18_sp2 ob) (by decide))
  clear hd2 hg2 hc2 HST HB1 HOLD1
  go_wp2_with fail
  refine HMV.out.mono ?_
  rintro e w3 ⟨v, L3, rfl, hd3, hg3, hc3⟩
  obtain ⟨f2, cap2, rfl, _, _⟩ := id hc3
  have HB3 := Go.Lib.hid (hd3.below_old HB2.out (Nat.le_refl _) HOLD2.out)
  have HOLD3 : Hid (∀ b, b < w.heap.size → L3 b = 0) := Go.Lib.hid (fun b hb => (hd3.lab b (Nat.lt_of_lt_of_le hb HB2.out.size)).trans (HOLD2.out b hb))
  replace HC1 := Go.Lib.hid (CodeSim.ext c18 (prApp c18 spE) _ 0 HC1.out (hd3.ext (by decide)))
  have HC2 := Go.Lib.hid hc3
  have HG3 := Go.Lib.hid hg3
  clear hd3 hg3 hc3 HMV HB2 HOLD2
  have hal : Below w3.heap.size w3 (w3.alloc (.cells #[.func (.func f1) #[] cap1, .func (.func f2) #[] cap2] 44)) := (Below.refl _ _).alloc (Nat.le_refl _) _
  have HE3 : Hid (Env L3 (w3.alloc (.cells #[.func (.func f1) #[] cap1, .func (.func f2) #[] cap2] 44)) [(w3.heap.size, [.func (.func f1) #[] cap1, .func (.func f2) #[] cap2])]) := Go.Lib.hid (Env.alloc_at (Env.nil L3 w3) (fun b hb => HG3.out.new b hb) [.func (.func f1) #[] cap1, .func (.func f2) #[] cap2] 44 (b := w3.heap.size) rfl)
  replace HG3 := Go.Lib.hid (HG3.out.below hal)
  replace HC1 := Go.Lib.hid (CodeSim.ext c18 (prApp c18 spE) _ 0 HC1.out (below_ext hal 0 L3))
  replace HC2 := Go.Lib.hid (CodeSim.ext c18 (prApp c18 spE) _ 1 HC2.out (below_ext hal 1 L3))
  replace HB3 := Go.Lib.hid (HB3.out.trans (hal.mono HB3.out.size))
  clear hal
  go_wp2
  generalize (w3.alloc (.cells #[.func (.func f1) #[] cap1, .func (.func f2) #[] cap2] 44)) = W3 at *
  generalize w3.heap.size = sl at *
  go_loopw [5, 6, 31] (fun _ _ i wr => ∃ L, Below w.heap.size w wr ∧ (∀ b, b < w.heap.size → L b = 0) ∧ Env L wr [(sl, [.func (.func f1) #[] cap1, .func (.func f2) #[] cap2])] ∧ ((i = .int .i64 0 ∧ Good ⟨k, p, a, cc, c18⟩ L (sp18 ob) wr ∧ CodeSim c18 (prApp c18 spE) ⟨k, p, a, cc, c18⟩ 0 90 L wr (.func (.func f1) #[] cap1) (some (startK c18 0 5 0 0 (.user (ob, 0)))) ∧ CodeSim c18 (prApp c18 spE) ⟨k, p, a, cc, c18⟩ 1 90 L wr (.func (.func f2) #[] cap2) (some (migrateK c18 0 0 1 1 (.user (ob, 0))))) ∨ (i = .int .i64 1 ∧ Good ⟨k, p, a, cc, c18⟩ L S1 wr ∧ CodeSim c18 (prApp c18 spE) ⟨k, p, a, cc, c18⟩ 1 90 L wr (.func (.func f2) #[] cap2) (some (migrateK c18 0 0 1 1 (.user (ob, 0))))) ∨ (i = .int .i64 2 ∧ Good ⟨k, p, a, cc, c18⟩ L S2 wr))) (fun _ _ i _ => 2 - (intOf i).toNat)
  case atStart => exact ⟨L3, HB3.out, HOLD3.out, HE3.out, .inl ⟨rfl, HG3.out, HC1.out, HC2.out⟩⟩
  case round =>
    obtain ⟨L5, hb5, hold5, henv5, hcase⟩ := hrel
    have HB5 := Go.Lib.hid hb5; have HOLD5 := Go.Lib.hid hold5; have HE5 := Go.Lib.hid henv5
    clear hb5 hold5 henv5
    rcases hcase with ⟨rfl, hg, hc1, hc2⟩ | ⟨rfl, hg, hc2⟩ | ⟨rfl, hg⟩
    · have HG5 := Go.Lib.hid hg; have HK0 := Go.Lib.hid hc1; have HK1 := Go.Lib.hid hc2
      clear hg hc2 hc1
      have q0 : wr.cell? ⟨sl, 0, none⟩ = some (.func (.func f1) #[] cap1) := HE5.out.cell 0 0 rfl rfl
      have q1 : wr.cell? ⟨sl, 1, none⟩ = some (.func (.func f2) #[] cap2) := HE5.out.cell 0 1 rfl rfl
      have HSZ := Go.Lib.hid HB5.out.size
      have HT := Go.Lib.hid (HG5.out.task 0 (.func (.func f1) #[] cap1) 142)
      go_wp2_with fail
      refine (step_New f1 #[] cap1 wr).mono ?_
      rintro e w6 ⟨rfl, rfl⟩
      clear q0 q1
      have hal : Below wr.heap.size wr (wr.alloc (.cells #[.func (.func f1) #[] cap1, .int .i64 0] 142)) := (Below.refl _ _).alloc (Nat.le_refl _) _
      have HX : Hid (Ext 0 L5 wr (fun b => if b = wr.heap.size then 5000 + 0 else L5 b) (wr.alloc (.cells #[.func (.func f1) #[] cap1, .int .i64 0] 142))) := Go.Lib.hid HT.out.2.2
      replace HB5 := Go.Lib.hid (HB5.out.trans (hal.mono HB5.out.size))
      replace HE5 := Go.Lib.hid (HE5.out.ext HX.out)
      replace HK0 := Go.Lib.hid (CodeSim.ext c18 (prApp c18 spE) _ 0 HK0.out HX.out)
      have HX1 : Hid (Ext 1 L5 wr (fun b => if b = wr.heap.size then 5000 + 0 else L5 b) (wr.alloc (.cells #[.func (.func f1) #[] cap1, .int .i64 0] 142))) := Go.Lib.hid ⟨hal.os, hal.tape, hal.output, hal.size, fun b hb _ => hal.block b hb, HX.out.lab⟩
      replace HK1 := Go.Lib.hid (CodeSim.ext c18 (prApp c18 spE) _ 1 HK1.out HX1.out)
      clear HX1
      generalize (fun b => if b = wr.heap.size then 5000 + 0 else L5 b) = L6 at *
      replace HOLD5 : Hid (∀ b, b < w.heap.size → L6 b = 0) := Go.Lib.hid (fun b hb => (HX.out.lab b (Nat.lt_of_lt_of_le hb HSZ.out)).trans (HOLD5.out b hb))
      clear hal HX HSZ
      generalize (wr.alloc (.cells #[.func (.func f1) #[] cap1, .int .i64 0] 142)) = W6 at *
      generalize wr.heap.size = tb at *
      go_wp2_with fail
      have HF : Calls Tryz.prog 20 #[.pointer (some ⟨tb, 0, none⟩), .int .i64 80] W6 _ := task_finish (most := 80) HT.out.1 HT.out.2.1 (by decide) HM1.out (by decide) (by decide) (CodeSim.le c18 (prApp c18 spE) _ 0 HK0.out (by have := HM1.out; omega)) HR1.out
      refine HF.mono ?_
      rintro e w7 ⟨v7, L7, rfl, hg7, hd7, ht7⟩
      have HG7 := Go.Lib.hid hg7
      have HB7 := Go.Lib.hid (hd7.below_old HB5.out (Nat.le_refl _) HOLD5.out)
      have HOLD7 : Hid (∀ b, b < w.heap.size → L7 b = 0) := Go.Lib.hid (fun b hb => (hd7.lab b (Nat.lt_of_lt_of_le hb HB5.out.size)).trans (HOLD5.out b hb))
      have HE7 := Go.Lib.hid (HE5.out.ext (hd7.ext (u := 7) (by decide) (by decide) (by decide)))
      have HK7 := Go.Lib.hid (CodeSim.ext c18 (prApp c18 spE) _ 1 HK1.out (hd7.ext (u := 1) (by decide) (by decide) (by decide)))
      clear hg7 hd7 ht7 HF HT
      go_wp2
      refine ⟨⟨L7, HB7.out, HOLD7.out, HE7.out, .inr (.inl ⟨by go_num, HG7.out, HK7.out⟩)⟩, by decide⟩
    · have HG5 := Go.Lib.hid hg; have HK1 := Go.Lib.hid hc2
      clear hg hc2
      have q0 : wr.cell? ⟨sl, 0, none⟩ = some (.func (.func f1) #[] cap1) := HE5.out.cell 0 0 rfl rfl
      have q1 : wr.cell? ⟨sl, 1, none⟩ = some (.func (.func f2) #[] cap2) := HE5.out.cell 0 1 rfl rfl
      have HSZ := Go.Lib.hid HB5.out.size
      have HT := Go.Lib.hid (HG5.out.task 1 (.func (.func f2) #[] cap2) 142)
      go_wp2_with fail
      refine (step_New f2 #[] cap2 wr).mono ?_
      rintro e w6 ⟨rfl, rfl⟩
      clear q0 q1
      have hal : Below wr.heap.size wr (wr.alloc (.cells #[.func (.func f2) #[] cap2, .int .i64 0] 142)) := (Below.refl _ _).alloc (Nat.le_refl _) _
      have HX : Hid (Ext 1 L5 wr (fun b => if b = wr.heap.size then 5000 + 1 else L5 b) (wr.alloc (.cells #[.func (.func f2) #[] cap2, .int .i64 0] 142))) := Go.Lib.hid HT.out.2.2
      replace HB5 := Go.Lib.hid (HB5.out.trans (hal.mono HB5.out.size))
      replace HE5 := Go.Lib.hid (HE5.out.ext HX.out)
      replace HK1 := Go.Lib.hid (CodeSim.ext c18 (prApp c18 spE) _ 1 HK1.out HX.out)
      generalize (fun b => if b = wr.heap.size then 5000 + 1 else L5 b) = L6 at *
      replace HOLD5 : Hid (∀ b, b < w.heap.size → L6 b = 0) := Go.Lib.hid (fun b hb => (HX.out.lab b (Nat.lt_of_lt_of_le hb HSZ.out)).trans (HOLD5.out b hb))
      clear hal HX HSZ
      generalize (wr.alloc (.cells #[.func (.func f2) #[] cap2, .int .i64 0] 142)) = W6 at *
      generalize wr.heap.size = tb at *
      go_wp2_with fail
      have HF : Calls Tryz.prog 20 #[.pointer (some ⟨tb, 0, none⟩), .int .i64 80] W6 _ := task_finish (most := 80) HT.out.1 HT.out.2.1 (by decide) HM2.out (by decide) (by decide) (CodeSim.le c18 (prApp c18 spE) _ 1 HK1.out (by have := HM2.out; omega)) HR2.out
      refine HF.mono ?_
      rintro e w7 ⟨v7, L7, rfl, hg7, hd7, ht7⟩
      have HG7 := Go.Lib.hid hg7
      have HB7 := Go.Lib.hid (hd7.below_old HB5.out (Nat.le_refl _) HOLD5.out)
      have HOLD7 : Hid (∀ b, b < w.heap.size → L7 b = 0) := Go.Lib.hid (fun b hb => (hd7.lab b (Nat.lt_of_lt_of_le hb HB5.out.size)).trans (HOLD5.out b hb))
      have HE7 := Go.Lib.hid (HE5.out.ext (hd7.ext (u := 7) (by decide) (by decide) (by decide)))
      clear hg7 hd7 ht7 HF HT
      go_wp2
      refine ⟨⟨L7, HB7.out, HOLD7.out, HE7.out, .inr (.inr ⟨by go_num, HG7.out⟩)⟩, by decide⟩
    · have HG5 := Go.Lib.hid hg
      clear hg
      have HBL0 : Hid (∀ W, Below wr.heap.size wr W → Calls Tryz.prog 36 #[boxVal ⟨k, p, a, cc, c18⟩ 0] W fun e w' => ∃ v, e = .returned v ∧ w'.ownsRow W.heap.size 3 1 v 1 [.int .i64 0] ∧ Below W.heap.size W w') := Go.Lib.hid (fun W hW => box_list (HG5.out.below hW) HP2.out.n HP2.out.shop (s := 0) (by show 0 < c18.workers; decide))
      have HBL1 : Hid (∀ W, Below wr.heap.size wr W → Calls Tryz.prog 36 #[boxVal ⟨k, p, a, cc, c18⟩ 1] W fun e w' => ∃ v, e = .returned v ∧ w'.ownsRow W.heap.size 3 1 v 1 [.int .i64 1] ∧ Below W.heap.size W w') := Go.Lib.hid (fun W hW => box_list (HG5.out.below hW) HP2.out.n HP2.out.shop (s := 1) (by show 1 < c18.workers; decide))
      go_wp2_with fail
      refine (core_box HG5.out 0).mono ?_
      rintro e w6 ⟨rfl, hb6⟩
      have HB6 := Go.Lib.hid hb6
      clear hb6
      go_wp2_with fail
      refine (HBL0.out _ HB6.out).mono ?_
      rintro e w7 ⟨v7, rfl, hown7, hb7⟩
      have hge7 := @own_ge _ _ _ _ _ _ _ hown7
      obtain ⟨g7, c7, rfl, d7⟩ := own_cell hown7 (by decide)
      have e7 : w7.cell? ⟨g7, 0, none⟩ = some (.int .i64 0) := d7 0 (by decide)
      have l7 : L5 g7 = 0 := HG5.out.new g7 (Nat.le_trans HB6.out.size (hge7 rfl))
      have s7 : g7 < w7.heap.size := cell_lt e7
      have HEV : Hid (Env L5 w7 [(g7, [.int .i64 0])]) := Go.Lib.hid ((Env.nil L5 w7).cons l7 s7 (by intro i v hi; match i, hi with | 0, hi => obtain rfl := Option.some.inj hi; exact e7))
      have HB7 := Go.Lib.hid (HB6.out.trans (hb7.mono HB6.out.size))
      clear hown7 hb7 hge7 d7 l7 s7 e7 HB6
      go_wp2_with fail
      refine (core_box (HG5.out.below HB7.out) 1).mono ?_
      rintro e w8 ⟨rfl, hb8⟩
      have HB8 := Go.Lib.hid (HB7.out.trans (hb8.mono HB7.out.size))
      replace HEV := Go.Lib.hid (HEV.out.ext (below_ext hb8 0 L5))
      clear hb8 HB7
      go_wp2_with fail
      refine (HBL1.out _ HB8.out).mono ?_
      rintro e w9 ⟨v9, rfl, hown9, hb9⟩
      have hge9 := @own_ge _ _ _ _ _ _ _ hown9
      obtain ⟨g9, c9, rfl, d9⟩ := own_cell hown9 (by decide)
      have e9 : w9.cell? ⟨g9, 0, none⟩ = some (.int .i64 1) := d9 0 (by decide)
      have l9 : L5 g9 = 0 := HG5.out.new g9 (Nat.le_trans HB8.out.size (hge9 rfl))
      have s9 : g9 < w9.heap.size := cell_lt e9
      replace HEV : Hid (Env L5 w9 [(g9, [.int .i64 1]), (g7, [.int .i64 0])]) := Go.Lib.hid ((HEV.out.ext (below_ext hb9 0 L5)).cons l9 s9 (by intro i v hi; match i, hi with | 0, hi => obtain rfl := Option.some.inj hi; exact e9))
      have HB9 := Go.Lib.hid (HB8.out.trans (hb9.mono HB8.out.size))
      clear hown9 hb9 hge9 d9 l9 s9 e9 HB8 HBL0 HBL1
      have HG9 := Go.Lib.hid (HG5.out.below HB9.out)
      have HBW := Go.Lib.hid (HB5.out.trans (HB9.out.mono HB5.out.size))
      have qob := HG9.out.reads HP2.out.reads
      go_wp2_with fail
      refine (core_cells HG9.out).mono ?_
      rintro e w9' ⟨rfl, rfl⟩
      go_wp2_with fail
      refine (core_plan HG9.out).mono ?_
      rintro e w9'' ⟨rfl, rfl⟩
      have HHM := Go.Lib.hid (arm_home HG9.out 0)
      go_wp2_with fail
      refine (HHM.out _ (Below.refl _ _)).mono ?_
      rintro e w10 ⟨rfl, hb10⟩
      have HG10 := Go.Lib.hid (HG9.out.below hb10)
      replace HEV := Go.Lib.hid (HEV.out.ext (below_ext hb10 0 L5))
      replace HBW := Go.Lib.hid (HBW.out.trans (hb10.mono HBW.out.size))
      clear hb10 HHM qob
      have hgv : S2.get (c18.home 0) = homeWord 1 1 1 := by
        have := get_in (S := S2) (i := c18.nodesAt + 4 * 0 + 1) (by rw [HP2.out.n]; decide)
        rw [HP2.out.home] at this
        exact this
      have HLD := Go.Lib.hid (arena_load HG10.out (c18.home 0) (by have := HP2.out.cnt; have := St.touch_cnt S2 (c18.home 0); omega))
      rw [hgv] at HLD
      clear hgv
      have hp3 := key_parts3 1 1 1 (by decide) (by decide) (by decide)
      have HHO : Hid (∀ W, Calls Tryz.prog 46 #[.int .u64 (homeWord 1 1 1 : Nat)] W fun e w' => e = .returned (.agg #[.int .i64 1, .int .i64 1, .int .i64 1]) ∧ Below W.heap.size W w') := Go.Lib.hid (fun W => by
        have h := of_HomeOf (homeWord 1 1 1) W (homeWord_lt 1 1 1)
        have e1 : part (homeWord 1 1 1) 32 32 = 1 := hp3.1
        have e2 : part (homeWord 1 1 1) 16 16 = 1 := hp3.2.1
        have e3 : part (homeWord 1 1 1) 0 16 = 1 := hp3.2.2
        rw [e1, e2, e3] at h
        exact h)
      clear hp3
      generalize homeWord 1 1 1 = hw at *
      go_wp2_with fail
      refine HLD.out.mono ?_
      rintro e w11 ⟨rfl, hg11, hs11⟩
      replace HEV := Go.Lib.hid (HEV.out.shr hs11)
      have HBX := Go.Lib.hid ((hs11.did 0).below_old HBW.out (Nat.le_refl _) HOLD5.out)
      have HG11 := Go.Lib.hid hg11
      clear hg11 hs11 HLD HBW
      go_wp2_with fail
      refine (HHO.out _).mono ?_
      rintro e w12 ⟨rfl, hb12⟩
      have HG12 := Go.Lib.hid (HG11.out.below hb12)
      replace HEV := Go.Lib.hid (HEV.out.ext (below_ext hb12 0 L5))
      replace HBX := Go.Lib.hid (HBX.out.trans (hb12.mono HBX.out.size))
      clear hb12 HHO
      have hal : Below w12.heap.size w12 (w12.alloc (.cells #[.int .i64 1, .int .i64 1, .int .i64 1] 83)) := (Below.refl _ _).alloc (Nat.le_refl _) _
      have HEW := Go.Lib.hid (Env.alloc_at HEV.out (fun b hb => HG12.out.new b hb) [.int .i64 1, .int .i64 1, .int .i64 1] 83 (b := w12.heap.size) rfl)
      replace HG12 := Go.Lib.hid (HG12.out.below hal)
      replace HBX := Go.Lib.hid (HBX.out.trans (hal.mono HBX.out.size))
      clear hal HEV
      go_wp2
      generalize (w12.alloc (.cells #[.int .i64 1, .int .i64 1, .int .i64 1] 83)) = W12 at *
      generalize w12.heap.size = hb9 at *
      go_cut [10, 11] from 70 to 89 (fun x y wx => ∃ L S g10 g11, x = .pointer (some ⟨g10, 0, none⟩) ∧ y = .pointer (some ⟨g11, 0, none⟩) ∧ Good ⟨k, p, a, cc, c18⟩ L S wx ∧ Env L wx [(hb9, [.int .i64 1, .int .i64 1, .int .i64 1]), (g9, [.int .i64 1]), (g7, [.int .i64 0])] ∧ Below w.heap.size w wx ∧ (S.reads (g10, 0) (.int .i64 1) ∧ S.reads (g10, 1) (.int .i64 0) ∧ S.reads (g10, 2) (.int .i64 0)) ∧ (S.reads (g11, 0) (.int .i64 1) ∧ S.reads (g11, 1) (.int .i64 1) ∧ S.reads (g11, 2) (.int .i64 0)))
      case first =>
        rename_i J1 K1 hJ1 hK1
        have HJ0 : J16 w ⟨k, p, a, cc, c18⟩ S2 [(hb9, [.int .i64 1, .int .i64 1, .int .i64 1]), (g9, [.int .i64 1]), (g7, [.int .i64 0])] (Array.replicate 24 false) ⟨#[], []⟩ W12.drew := ⟨⟨L5, _, HG12.out.below (Below.refl _ _).drew, St.touch_m _ _, St.touch_n _ _, by have := St.touch_cnt S2 (c18.home 0); simp; omega, HEW.out.below (Below.refl _ _).drew, HBX.out.drew, HOLD5.out, fun q => by simp at q, fun q => by simp at q, fun q => by simp at q, fun q => by simp at q, fun q => by simp at q⟩⟩
        have hcnt := HP2.out.cnt
        have hget0 : S2.get (c18.key 0) = keyWord 1 0 0 := by have := get_in (S := S2) (i := c18.ticketsAt + 3 * 0) (by rw [HP2.out.n]; decide); rw [HP2.out.key0] at this; exact this
        have hget1 : S2.get (c18.key 1) = keyWord 1 1 0 := by have := get_in (S := S2) (i := c18.ticketsAt + 3 * 1) (by rw [HP2.out.n]; decide); rw [HP2.out.key1] at this; exact this
        have hkp0 := key_parts3 1 0 0 (by decide) (by decide) (by decide)
        have hkp1 := key_parts3 1 1 0 (by decide) (by decide) (by decide)
        have hko0 : ∀ W, Calls Tryz.prog 49 #[.int .u64 (keyWord 1 0 0 : Nat)] W fun e w' => e = .returned (.agg #[.int .i64 1, .int .i64 0, .int .i64 0]) ∧ Below W.heap.size W w' := fun W => by
          have h := of_KeyOf (keyWord 1 0 0) W (keyWord_lt 1 0 0)
          have e1 : part (keyWord 1 0 0) 32 32 = 1 := hkp0.1
          have e2 : part (keyWord 1 0 0) 16 16 = 0 := hkp0.2.1
          have e3 : part (keyWord 1 0 0) 0 16 = 0 := hkp0.2.2
          rw [e1, e2, e3] at h
          exact h
        have hko1 : ∀ W, Calls Tryz.prog 49 #[.int .u64 (keyWord 1 1 0 : Nat)] W fun e w' => e = .returned (.agg #[.int .i64 1, .int .i64 1, .int .i64 0]) ∧ Below W.heap.size W w' := fun W => by
          have h := of_KeyOf (keyWord 1 1 0) W (keyWord_lt 1 1 0)
          have e1 : part (keyWord 1 1 0) 32 32 = 1 := hkp1.1
          have e2 : part (keyWord 1 1 0) 16 16 = 1 := hkp1.2.1
          have e3 : part (keyWord 1 1 0) 0 16 = 0 := hkp1.2.2
          rw [e1, e2, e3] at h
          exact h
        clear hkp0 hkp1
        generalize keyWord 1 0 0 = kw0 at *
        generalize keyWord 1 1 0 = kw1 at *
        refine wp_region_fr [10, 11, 70, 71, 72, 73, 74, 75, 76, 77, 78, 79, 80, 81, 82, 83, 84, 85, 86, 87, 88, 89] (tab16 k p a g7 c7 g9 c9 kw0 kw1) (J16 w ⟨k, p, a, cc, c18⟩ S2 [(hb9, [.int .i64 1, .int .i64 1, .int .i64 1]), (g9, [.int .i64 1]), (g7, [.int .i64 0])]) (by kernel_rfl) (by kernel_rfl) (by kernel_rfl) ⟨HJ0.ex⟩ ?_ ?_
        · refine ⟨?_, ?_, ?_, ?_, ?_, ?_, ?_, ?_, ?_, ?_, ?_, ?_, ?_, ?_, ?_, ?_, ?_, ?_, ?_, ?_, ?_, ?_, ?_, ?_, trivial⟩
          · intro listed a' w' hf hv hj hun hdep K hK
            have hsz : a'.tmps.size = 104 := hf.size
            refine st_move _ rfl ((hf.rest 1 (by decide)).trans rfl) ?_
            exact hK _ _ (hf.put (by decide)) (hv.done (tab16_r _ _ _ _ _ _ _ _ _) (tab16_n _ _ _ _ _ _ _ _ _) rfl (by rw [hsz]; decide)) (hj.quiet (by decide) (by decide) (Below.refl _ _))
          · intro listed a' w' hf hv hj hun hdep K hK
            have hsz : a'.tmps.size = 104 := hf.size
            have e70 := hv.get 0 rfl (hdep 0 (by kernel_rfl))
            refine st_call #[.pointer (some ⟨k, 0, none⟩)] rfl (enters_of Tryz.func44 (by kernel_rfl) rfl) (by simp [slot_eval, e70]) ?_
            obtain ⟨L, S, hg, hm, hn, hc, he, hbw, hold, _⟩ := hj.ex
            refine (arm_cells hg _ (Below.refl _ _)).mono ?_
            rintro e w2 ⟨rfl, hb⟩
            exact ⟨_, rfl, hK _ _ (hf.put (by decide)) (hv.done (tab16_r _ _ _ _ _ _ _ _ _) (tab16_n _ _ _ _ _ _ _ _ _) rfl (by rw [hsz]; decide)) (hj.quiet (by decide) (by decide) hb)⟩
          · intro listed a' w' hf hv hj hun hdep K hK
            have hsz : a'.tmps.size = 104 := hf.size
            refine st_move _ rfl ((hf.rest 1 (by decide)).trans rfl) ?_
            exact hK _ _ (hf.put (by decide)) (hv.done (tab16_r _ _ _ _ _ _ _ _ _) (tab16_n _ _ _ _ _ _ _ _ _) rfl (by rw [hsz]; decide)) (hj.quiet (by decide) (by decide) (Below.refl _ _))
          · intro listed a' w' hf hv hj hun hdep K hK
            have hsz : a'.tmps.size = 104 := hf.size
            have e72 := hv.get 2 rfl (hdep 2 (by kernel_rfl))
            refine st_call #[.pointer (some ⟨k, 0, none⟩)] rfl (enters_of Tryz.func47 (by kernel_rfl) rfl) (by simp [slot_eval, e72]) ?_
            obtain ⟨L, S, hg, hm, hn, hc, he, hbw, hold, _⟩ := hj.ex
            refine (arm_plan hg _ (Below.refl _ _)).mono ?_
            rintro e w2 ⟨rfl, hb⟩
            exact ⟨_, rfl, hK _ _ (hf.put (by decide)) (hv.done (tab16_r _ _ _ _ _ _ _ _ _) (tab16_n _ _ _ _ _ _ _ _ _) rfl (by rw [hsz]; decide)) (hj.quiet (by decide) (by decide) hb)⟩
          · intro listed a' w' hf hv hj hun hdep K hK
            have hsz : a'.tmps.size = 104 := hf.size
            refine st_move _ rfl ((hf.rest 7 (by decide)).trans rfl) ?_
            exact hK _ _ (hf.put (by decide)) (hv.done (tab16_r _ _ _ _ _ _ _ _ _) (tab16_n _ _ _ _ _ _ _ _ _) rfl (by rw [hsz]; decide)) (hj.quiet (by decide) (by decide) (Below.refl _ _))
          · intro listed a' w' hf hv hj hun hdep K hK
            have hsz : a'.tmps.size = 104 := hf.size
            have e74 := hv.get 4 rfl (hdep 4 (by kernel_rfl))
            refine st_gen rfl ?_
            unfold Oper.wp execOp
            dsimp only
            rw [slot_eval, e74]
            go_simp
            exact hK _ _ (hf.put (by decide)) (hv.done (tab16_r _ _ _ _ _ _ _ _ _) (tab16_n _ _ _ _ _ _ _ _ _) rfl (by rw [hsz]; decide)) (hj.quiet (by decide) (by decide) (Below.refl _ _))
          · intro listed a' w' hf hv hj hun hdep K hK
            have hsz : a'.tmps.size = 104 := hf.size
            have e75 := hv.get 5 rfl (hdep 5 (by kernel_rfl))
            obtain ⟨L, S, hg, hm, hn, hc, he, hbw, hold, _⟩ := hj.ex
            have q : w'.cell? ⟨g7, 0, none⟩ = some (.int .i64 0) := he.cell 2 0 rfl rfl
            refine st_gen rfl ?_
            unfold Oper.wp execOp
            dsimp only
            rw [slot_eval, e75]
            go_simp
            exact hK _ _ (hf.put (by decide)) (hv.done (tab16_r _ _ _ _ _ _ _ _ _) (tab16_n _ _ _ _ _ _ _ _ _) rfl (by rw [hsz]; decide)) (hj.quiet (by decide) (by decide) (Below.refl _ _))
          · intro listed a' w' hf hv hj hun hdep K hK
            have hsz : a'.tmps.size = 104 := hf.size
            have e73 := hv.get 3 rfl (hdep 3 (by kernel_rfl))
            have e76 := hv.get 6 rfl (hdep 6 (by kernel_rfl))
            refine st_call #[.pointer (some ⟨p, 0, none⟩), .int .i64 0] rfl (enters_of Tryz.func50 (by kernel_rfl) rfl) (by simp [slot_eval, e73, e76]) ?_
            obtain ⟨L, S, hg, hm, hn, hc, he, hbw, hold, _⟩ := hj.ex
            refine (arm_key hg 0 _ (Below.refl _ _)).mono ?_
            rintro e w2 ⟨rfl, hb⟩
            exact ⟨_, rfl, hK _ _ (hf.put (by decide)) (hv.done (tab16_r _ _ _ _ _ _ _ _ _) (tab16_n _ _ _ _ _ _ _ _ _) rfl (by rw [hsz]; decide)) (hj.quiet (by decide) (by decide) hb)⟩
          · intro listed a' w' hf hv hj hun hdep K hK
            have hsz : a'.tmps.size = 104 := hf.size
            have e71 := hv.get 1 rfl (hdep 1 (by kernel_rfl))
            have e77 := hv.get 7 rfl (hdep 7 (by kernel_rfl))
            refine st_call #[.pointer (some ⟨a, 0, none⟩), .int .i64 (c18.key 0)] rfl (enters_of Tryz.func136 (by kernel_rfl) rfl) (by simp [slot_eval, e71, e77]) ?_
            obtain ⟨L, S, hg, hgt, hct, hnx⟩ := hj.load (i := 8) (d := 78) (v := .int .u64 (kw0 : Nat)) (c18.key 0) HP2.out.cnt (by decide) hun (by decide)
            have hl := arena_load hg (c18.key 0) hct
            rw [hgt, hget0] at hl
            refine hl.mono ?_
            rintro e w2 ⟨rfl, hg2, hs2⟩
            exact ⟨_, rfl, hK _ _ (hf.put (by decide)) (hv.done (tab16_r _ _ _ _ _ _ _ _ _) (tab16_n _ _ _ _ _ _ _ _ _) rfl (by rw [hsz]; decide)) (hnx w2 hg2 hs2)⟩
          · intro listed a' w' hf hv hj hun hdep K hK
            have hsz : a'.tmps.size = 104 := hf.size
            have e78 := hv.get 8 rfl (hdep 8 (by kernel_rfl))
            refine st_call #[.int .u64 (kw0 : Nat)] rfl (enters_of Tryz.func49 (by kernel_rfl) rfl) (by simp [slot_eval, e78]) ?_
            obtain ⟨L, S, hg, hm, hn, hc, he, hbw, hold, _⟩ := hj.ex
            refine (hko0 _).mono ?_
            rintro e w2 ⟨rfl, hb⟩
            exact ⟨_, rfl, hK _ _ (hf.put (by decide)) (hv.done (tab16_r _ _ _ _ _ _ _ _ _) (tab16_n _ _ _ _ _ _ _ _ _) rfl (by rw [hsz]; decide)) (hj.quiet (by decide) (by decide) hb)⟩
          · intro listed a' w' hf hv hj hun hdep K hK
            have hsz : a'.tmps.size = 104 := hf.size
            refine st_move _ rfl ((hf.rest 1 (by decide)).trans rfl) ?_
            exact hK _ _ (hf.put (by decide)) (hv.done (tab16_r _ _ _ _ _ _ _ _ _) (tab16_n _ _ _ _ _ _ _ _ _) rfl (by rw [hsz]; decide)) (hj.quiet (by decide) (by decide) (Below.refl _ _))
          · intro listed a' w' hf hv hj hun hdep K hK
            have hsz : a'.tmps.size = 104 := hf.size
            have e80 := hv.get 10 rfl (hdep 10 (by kernel_rfl))
            refine st_call #[.pointer (some ⟨k, 0, none⟩)] rfl (enters_of Tryz.func44 (by kernel_rfl) rfl) (by simp [slot_eval, e80]) ?_
            obtain ⟨L, S, hg, hm, hn, hc, he, hbw, hold, _⟩ := hj.ex
            refine (arm_cells hg _ (Below.refl _ _)).mono ?_
            rintro e w2 ⟨rfl, hb⟩
            exact ⟨_, rfl, hK _ _ (hf.put (by decide)) (hv.done (tab16_r _ _ _ _ _ _ _ _ _) (tab16_n _ _ _ _ _ _ _ _ _) rfl (by rw [hsz]; decide)) (hj.quiet (by decide) (by decide) hb)⟩
          · intro listed a' w' hf hv hj hun hdep K hK
            have hsz : a'.tmps.size = 104 := hf.size
            refine st_move _ rfl ((hf.rest 1 (by decide)).trans rfl) ?_
            exact hK _ _ (hf.put (by decide)) (hv.done (tab16_r _ _ _ _ _ _ _ _ _) (tab16_n _ _ _ _ _ _ _ _ _) rfl (by rw [hsz]; decide)) (hj.quiet (by decide) (by decide) (Below.refl _ _))
          · intro listed a' w' hf hv hj hun hdep K hK
            have hsz : a'.tmps.size = 104 := hf.size
            have e82 := hv.get 12 rfl (hdep 12 (by kernel_rfl))
            refine st_call #[.pointer (some ⟨k, 0, none⟩)] rfl (enters_of Tryz.func47 (by kernel_rfl) rfl) (by simp [slot_eval, e82]) ?_
            obtain ⟨L, S, hg, hm, hn, hc, he, hbw, hold, _⟩ := hj.ex
            refine (arm_plan hg _ (Below.refl _ _)).mono ?_
            rintro e w2 ⟨rfl, hb⟩
            exact ⟨_, rfl, hK _ _ (hf.put (by decide)) (hv.done (tab16_r _ _ _ _ _ _ _ _ _) (tab16_n _ _ _ _ _ _ _ _ _) rfl (by rw [hsz]; decide)) (hj.quiet (by decide) (by decide) hb)⟩
          · intro listed a' w' hf hv hj hun hdep K hK
            have hsz : a'.tmps.size = 104 := hf.size
            refine st_move _ rfl ((hf.rest 8 (by decide)).trans rfl) ?_
            exact hK _ _ (hf.put (by decide)) (hv.done (tab16_r _ _ _ _ _ _ _ _ _) (tab16_n _ _ _ _ _ _ _ _ _) rfl (by rw [hsz]; decide)) (hj.quiet (by decide) (by decide) (Below.refl _ _))
          · intro listed a' w' hf hv hj hun hdep K hK
            have hsz : a'.tmps.size = 104 := hf.size
            have e84 := hv.get 14 rfl (hdep 14 (by kernel_rfl))
            refine st_gen rfl ?_
            unfold Oper.wp execOp
            dsimp only
            rw [slot_eval, e84]
            go_simp
            exact hK _ _ (hf.put (by decide)) (hv.done (tab16_r _ _ _ _ _ _ _ _ _) (tab16_n _ _ _ _ _ _ _ _ _) rfl (by rw [hsz]; decide)) (hj.quiet (by decide) (by decide) (Below.refl _ _))
          · intro listed a' w' hf hv hj hun hdep K hK
            have hsz : a'.tmps.size = 104 := hf.size
            have e85 := hv.get 15 rfl (hdep 15 (by kernel_rfl))
            obtain ⟨L, S, hg, hm, hn, hc, he, hbw, hold, _⟩ := hj.ex
            have q : w'.cell? ⟨g9, 0, none⟩ = some (.int .i64 1) := he.cell 1 0 rfl rfl
            refine st_gen rfl ?_
            unfold Oper.wp execOp
            dsimp only
            rw [slot_eval, e85]
            go_simp
            exact hK _ _ (hf.put (by decide)) (hv.done (tab16_r _ _ _ _ _ _ _ _ _) (tab16_n _ _ _ _ _ _ _ _ _) rfl (by rw [hsz]; decide)) (hj.quiet (by decide) (by decide) (Below.refl _ _))
          · intro listed a' w' hf hv hj hun hdep K hK
            have hsz : a'.tmps.size = 104 := hf.size
            have e83 := hv.get 13 rfl (hdep 13 (by kernel_rfl))
            have e86 := hv.get 16 rfl (hdep 16 (by kernel_rfl))
            refine st_call #[.pointer (some ⟨p, 0, none⟩), .int .i64 1] rfl (enters_of Tryz.func50 (by kernel_rfl) rfl) (by simp [slot_eval, e83, e86]) ?_
            obtain ⟨L, S, hg, hm, hn, hc, he, hbw, hold, _⟩ := hj.ex
            refine (arm_key hg 1 _ (Below.refl _ _)).mono ?_
            rintro e w2 ⟨rfl, hb⟩
            exact ⟨_, rfl, hK _ _ (hf.put (by decide)) (hv.done (tab16_r _ _ _ _ _ _ _ _ _) (tab16_n _ _ _ _ _ _ _ _ _) rfl (by rw [hsz]; decide)) (hj.quiet (by decide) (by decide) hb)⟩
          · intro listed a' w' hf hv hj hun hdep K hK
            have hsz : a'.tmps.size = 104 := hf.size
            have e81 := hv.get 11 rfl (hdep 11 (by kernel_rfl))
            have e87 := hv.get 17 rfl (hdep 17 (by kernel_rfl))
            refine st_call #[.pointer (some ⟨a, 0, none⟩), .int .i64 (c18.key 1)] rfl (enters_of Tryz.func136 (by kernel_rfl) rfl) (by simp [slot_eval, e81, e87]) ?_
            obtain ⟨L, S, hg, hgt, hct, hnx⟩ := hj.load (i := 18) (d := 88) (v := .int .u64 (kw1 : Nat)) (c18.key 1) HP2.out.cnt (by decide) hun (by decide)
            have hl := arena_load hg (c18.key 1) hct
            rw [hgt, hget1] at hl
            refine hl.mono ?_
            rintro e w2 ⟨rfl, hg2, hs2⟩
            exact ⟨_, rfl, hK _ _ (hf.put (by decide)) (hv.done (tab16_r _ _ _ _ _ _ _ _ _) (tab16_n _ _ _ _ _ _ _ _ _) rfl (by rw [hsz]; decide)) (hnx w2 hg2 hs2)⟩
          · intro listed a' w' hf hv hj hun hdep K hK
            have hsz : a'.tmps.size = 104 := hf.size
            have e88 := hv.get 18 rfl (hdep 18 (by kernel_rfl))
            refine st_call #[.int .u64 (kw1 : Nat)] rfl (enters_of Tryz.func49 (by kernel_rfl) rfl) (by simp [slot_eval, e88]) ?_
            obtain ⟨L, S, hg, hm, hn, hc, he, hbw, hold, _⟩ := hj.ex
            refine (hko1 _).mono ?_
            rintro e w2 ⟨rfl, hb⟩
            exact ⟨_, rfl, hK _ _ (hf.put (by decide)) (hv.done (tab16_r _ _ _ _ _ _ _ _ _) (tab16_n _ _ _ _ _ _ _ _ _) rfl (by rw [hsz]; decide)) (hj.quiet (by decide) (by decide) hb)⟩
          · intro listed a' w' hf hv hj hun hdep K hK
            have hsz : a'.tmps.size = 104 := hf.size
            refine st_gen rfl ?_
            unfold Oper.wp execOp
            dsimp only
            go_simp
            exact hK _ _ (hf.put (by decide)) (hv.other (tab16_c20 _ _ _ _ _ _ _ _ _)) (hj.alloc _ (by decide) hun (by rw [hsz]; decide))
          · intro listed a' w' hf hv hj hun hdep K hK
            have hsz : a'.tmps.size = 104 := hf.size
            refine st_gen rfl ?_
            unfold Oper.wp execOp
            dsimp only
            go_simp
            exact hK _ _ (hf.put (by decide)) (hv.other (tab16_c21 _ _ _ _ _ _ _ _ _)) (hj.alloc _ (by decide) hun (by rw [hsz]; decide))
          · intro listed a' w' hf hv hj hun hdep K hK
            have hsz : a'.tmps.size = 104 := hf.size
            have e79 := hv.get 9 rfl (hdep 9 (by kernel_rfl))
            obtain ⟨g, u0, u1, u2, e10, hc0, hc1, hc2, hf0, hf1, hf2, hnx⟩ := hj.store22 (hdep 20 (by kernel_rfl))
            refine st_gen rfl ?_
            unfold Oper.wp execOp
            dsimp only
            rw [slot_eval, slot_eval, e10, e79]
            go_simp
            exact hK _ _ hf (hv.skip (tab16_s22 _ _ _ _ _ _ _ _ _)) hnx
          · intro listed a' w' hf hv hj hun hdep K hK
            have hsz : a'.tmps.size = 104 := hf.size
            have e89 := hv.get 19 rfl (hdep 19 (by kernel_rfl))
            obtain ⟨g, u0, u1, u2, e10, hc0, hc1, hc2, hf0, hf1, hf2, hnx⟩ := hj.store23 (hdep 21 (by kernel_rfl))
            refine st_gen rfl ?_
            unfold Oper.wp execOp
            dsimp only
            rw [slot_eval, slot_eval, e10, e89]
            go_simp
            exact hK _ _ hf (hv.skip (tab16_s23 _ _ _ _ _ _ _ _ _)) hnx
        · intro listed a' w' hf hv hj hall
          obtain ⟨L, S, hg, hm, hn, hc, he, hbw, hold, h10, h11, hne, _⟩ := hj.ex
          obtain ⟨x10, e10, _, r10⟩ := h10 (hall 20 (by decide))
          obtain ⟨x11, e11, _, r11⟩ := h11 (hall 21 (by decide))
          refine hK1 _ _ (Met.intro (hJ1 _ _ ⟨slotOf a' 10, slotOf a' 11, slotOf a' 70, slotOf a' 71, slotOf a' 72, slotOf a' 73, slotOf a' 74, slotOf a' 75, slotOf a' 76, slotOf a' 77, slotOf a' 78, slotOf a' 79, slotOf a' 80, slotOf a' 81, slotOf a' 82, slotOf a' 83, slotOf a' 84, slotOf a' 85, slotOf a' 86, slotOf a' 87, slotOf a' 88, slotOf a' 89, ⟨L, S, x10, x11, e10, e11, hg, he, hbw, r10 (hall 22 (by decide)), r11 (hall 23 (by decide))⟩, ?lit⟩))
          refine hf.lit.trans ?_
          kernel_rfl
      case rest =>
        obtain ⟨L, S, g10, g11, rfl, rfl, hg, he, hbw, r10, r11⟩ := hcut
        have c10 := hg.reads r10.1
        have c11 := hg.reads r10.2.1
        have c12 := hg.reads r10.2.2
        have d10 := hg.reads r11.1
        have d11 := hg.reads r11.2.1
        have d12 := hg.reads r11.2.2
        have h90 : wc.cell? ⟨hb9, 0, none⟩ = some (.int .i64 1) := he.cell 0 0 rfl rfl
        have h91 : wc.cell? ⟨hb9, 1, none⟩ = some (.int .i64 1) := he.cell 0 1 rfl rfl
        have h92 : wc.cell? ⟨hb9, 2, none⟩ = some (.int .i64 1) := he.cell 0 2 rfl rfl
        have HBE := Go.Lib.hid hbw
        clear hg he hbw r10 r11
        go_wp2_with fail
        refine (move_leave 1 0 0 1 1 1 0 _).mono ?_
        rintro e w20 ⟨rfl, hb20⟩
        rw [show leaveB 1 0 1 1 1 0 = true from rfl]
        replace d10 := below_cell hb20 d10
        replace d11 := below_cell hb20 d11
        replace d12 := below_cell hb20 d12
        replace h90 := below_cell hb20 h90
        replace h91 := below_cell hb20 h91
        replace h92 := below_cell hb20 h92
        replace HBE := Go.Lib.hid (HBE.out.trans (hb20.mono HBE.out.size))
        clear c10 c11 c12 hb20
        go_wp2_with fail
        refine (move_leave 1 1 0 1 1 1 1 _).mono ?_
        rintro e w21 ⟨rfl, hb21⟩
        rw [show leaveB 1 1 1 1 1 1 = false from rfl]
        replace HBE := Go.Lib.hid (HBE.out.trans (hb21.mono HBE.out.size))
        clear d10 d11 d12 h90 h91 h92 hb21
        go_wp2
        go_ret
        exact ⟨rfl, HBE.out⟩
end Go.Proofs.YtgemjjpmoejgdaaGreat
