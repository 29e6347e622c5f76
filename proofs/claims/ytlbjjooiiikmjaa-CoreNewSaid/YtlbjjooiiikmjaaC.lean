/- The core: what all programs share. -/
import Derived.Test.YtlbjjooiiikmjaaT
import Derived.Test.YtlbjjooiiikmjaaR
namespace Go.Proofs.Ytlbjjooiiikmjaa
open Go.RowKit
set_option maxRecDepth 100000
set_option linter.unusedVariables false

set_option maxHeartbeats 400000 in
theorem core_cells {E : G} {L : Lab} {S : St} {w : World} (hg : Good E L S w) :
    Calls Try.prog 8 #[.pointer (some ⟨E.k, 0, none⟩)] w fun e w' => e = .returned (.pointer (some ⟨E.a, 0, none⟩)) ∧ w' = w := by
  have h1 := hg.k1
  go_enter Try.func8, Try.ntmps8
  go_wp2
  go_ret
  exact ⟨rfl, rfl⟩
set_option maxHeartbeats 400000 in
theorem core_plan {E : G} {L : Lab} {S : St} {w : World} (hg : Good E L S w) :
    Calls Try.prog 10 #[.pointer (some ⟨E.k, 0, none⟩)] w fun e w' => e = .returned (.pointer (some ⟨E.p, 0, none⟩)) ∧ w' = w := by
  have h1 := hg.k0
  go_enter Try.func10, Try.ntmps10
  go_wp2
  go_ret
  exact ⟨rfl, rfl⟩

theorem part_lt (x s n : Nat) : part x s n < 2 ^ n := Nat.mod_lt _ (Nat.two_pow_pos n)

section
variable {ρ : Type} {R : ρ → Arg → St → St × Option (K ρ)} {E : G} {t : Nat}

theorem enters_deadB : EntersF 87 := enters_of Try.func87 (by kernel_rfl) rfl
theorem enters_deadA : EntersF 85 := enters_of Try.func85 (by kernel_rfl) rfl

set_option maxHeartbeats 1000000 in
theorem deadB_con {n : Nat} {gen : Int} {vk : Value} {c : C ρ} {L : Lab} {w : World} {b1 kb : Nat}
    (h1 : w.cell? ⟨b1, 0, none⟩ = some vk) (h2 : w.cell? ⟨kb, 0, none⟩ = some (.int .i64 gen)) (l1 : L b1 = 0) (l2 : L kb = 0) (hk : ConSim E.cf R E t isB n L w vk c) :
    ConSim E.cf R E t isW n L w (.func (.func 87) #[] #[.pointer (some ⟨b1, 0, none⟩), .pointer (some ⟨kb, 0, none⟩)]) (.deadB gen c) := by
  refine ⟨_, _, rfl, enters_deadB, ?_⟩
  intro a L' w' S ha hx hg hbd
  cases a with
  | w x =>
    have hx64 : x < 18446744073709551616 := ha
    obtain ⟨f, cap, rfl, hf, hk⟩ := hk
    have hf' : ∀ (args : Array Value) (w : World), (callFunc f args).run Try.prog w = .ok (.enter f args) w := hf
    have g1 := hx.cell0 h1 l1
    have g2 := hx.cell0 h2 l2
    show Calls _ _ #[_, _, _] _ _
    have hk1 : ∀ (d : Bool) (w1 : World), d = decide (¬ (part x 0 2 = 1) ∨ ¬ (((part x 32 32 : Nat) : Int) = gen)) → Below w'.heap.size w' w1 → Calls Try.prog f (#[.bool d] ++ cap) w1 (Post E.cf R E t n L' w1 (app E.cf R (.deadB gen c) (.w x) S)) := by
      intro d w1 hd hb
      subst hd
      exact hk (.b _) L' w1 S trivial (hx.trans (below_ext hb t L')) (hg.below hb) hbd
    have HK := Go.Lib.hid hk1
    clear hk1 hk hx hg hbd
    generalize app E.cf R (.deadB gen c) (.w x) S = r at *
    have q1 := cell_lt g1
    have q2 := cell_lt g2
    go_enter Try.func87, Try.ntmps87
    go_wp2_with fail
    refine (of_StateOf x _ hx64).mono ?_
    rintro e w1 ⟨rfl, hb1⟩
    have g1' := below_cell hb1 g1
    have g2' := below_cell hb1 g2
    have q1' := cell_lt g1'
    have q2' := cell_lt g2'
    have HB := Go.Lib.hid hb1
    clear hb1 g1 g2 q1 q2
    generalize hs2 : part x 0 2 = s2 at *
    generalize hs0 : part x 32 32 = s0 at *
    generalize part x 2 30 = s1 at *
    have HS2 := Go.Lib.hid hs2
    have HS0 := Go.Lib.hid hs0
    clear hs2 hs0 hx64 ha h1 h2 l1 l2
    by_cases hs : s2 = 1
    · have b1 : (((s2 : Nat) : Int) != 1) = false := by simp [hs]
      by_cases hq : ((s0 : Nat) : Int) = gen
      · have b2 : (((s0 : Nat) : Int) != gen) = false := by simp [hq]
        have HD : Hid (false = decide (¬ (s2 = 1) ∨ ¬ (((s0 : Nat) : Int) = gen))) := by unfold Hid; simp [hs, hq]
        clear hs hq
        go_wp2_with (go_at_fn f; refine (HK.out false _ HD.out (HB.out.trans ((Below.refl _ w1).alloc HB.out.size _))).mono ?_; rintro e w2 ⟨v2, L2, rfl, hd2, hg2, hc2⟩)
        go_ret
        exact ⟨v2, L2, rfl, (below_did (HB.out.trans ((Below.refl _ w1).alloc HB.out.size _)) t L').trans hd2, hg2, hc2⟩
      · have b2 : (((s0 : Nat) : Int) != gen) = true := by simp [hq]
        have HD : Hid (true = decide (¬ (s2 = 1) ∨ ¬ (((s0 : Nat) : Int) = gen))) := by unfold Hid; simp [hq]
        clear hs hq
        go_wp2_with (go_at_fn f; refine (HK.out true _ HD.out (HB.out.trans ((Below.refl _ w1).alloc HB.out.size _))).mono ?_; rintro e w2 ⟨v2, L2, rfl, hd2, hg2, hc2⟩)
        go_ret
        exact ⟨v2, L2, rfl, (below_did (HB.out.trans ((Below.refl _ w1).alloc HB.out.size _)) t L').trans hd2, hg2, hc2⟩
    · have b1 : (((s2 : Nat) : Int) != 1) = true := by simp; omega
      have HD : Hid (true = decide (¬ (s2 = 1) ∨ ¬ (((s0 : Nat) : Int) = gen))) := by unfold Hid; simp [hs]
      clear hs
      go_wp2_with (go_at_fn f; refine (HK.out true _ HD.out (HB.out.trans ((Below.refl _ w1).alloc HB.out.size _))).mono ?_; rintro e w2 ⟨v2, L2, rfl, hd2, hg2, hc2⟩)
      go_ret
      exact ⟨v2, L2, rfl, (below_did (HB.out.trans ((Below.refl _ w1).alloc HB.out.size _)) t L').trans hd2, hg2, hc2⟩
  | _ => exact absurd ha (by simp [isW])

theorem Good.cells {L : Lab} {S : St} {w : World} (h : Good E L S w) : w.cell? ⟨E.k, 1, none⟩ = some (.pointer (some ⟨E.a, 0, none⟩)) ∧ w.cell? ⟨E.k, 0, none⟩ = some (.pointer (some ⟨E.p, 0, none⟩)) := ⟨h.k1, h.k0⟩

theorem below_below {w w1 w2 : World} (h : Below w1.heap.size w1 w2) (hs : w.heap.size ≤ w1.heap.size) : Below w.heap.size w1 w2 := h.mono hs

set_option maxHeartbeats 1000000 in
theorem deadA_con (hR : RMono R) {n : Nat} {vk : Value} {c : C ρ} {L : Lab} {w : World} {b0 b1 : Nat}
    (h0 : w.cell? ⟨b0, 0, none⟩ = some (.pointer (some ⟨E.k, 0, none⟩))) (h1 : w.cell? ⟨b1, 0, none⟩ = some vk) (l0 : L b0 = 0) (l1 : L b1 = 0) (hk : ConSim E.cf R E t isB n L w vk c) :
    ConSim E.cf R E t isW (n + 1) L w (.func (.func 85) #[] #[.pointer (some ⟨b0, 0, none⟩), .pointer (some ⟨b1, 0, none⟩)]) (.deadA c) := by
  refine ⟨_, _, rfl, enters_deadA, ?_⟩
  intro a L' w' S ha hx hg hbd
  cases a with
  | w x =>
    have hx64 : x < 18446744073709551616 := ha
    have g0 := hx.cell0 h0 l0
    have g1 := hx.cell0 h1 l1
    have m0 : L' b0 = 0 := (hx.lab b0 (cell_lt h0)).trans l0
    have m1 : L' b1 = 0 := (hx.lab b1 (cell_lt h1)).trans l1
    have hk' := ConSim.ext E.cf R E t hk hx
    show Calls _ _ #[_, _, _] _ _
    have hr : app E.cf R (.deadA c) (.w x) S = (S, some (.load (E.cf.state (part x 0 16 : Nat)) (.deadB (part x 32 32 : Nat) c))) := by unfold app; rfl
    rw [hr]
    clear hr hbd hk h0 h1 l0 l1 hx
    have HK := Go.Lib.hid hk'
    clear hk'
    go_enter Try.func85, Try.ntmps85
    go_wp2_with fail
    refine (of_KeyOf x _ hx64).mono ?_
    rintro e w1 ⟨rfl, hb1⟩
    have hlt := part_lt x 0 16
    generalize part x 0 16 = x0 at *
    generalize part x 16 16 = x1 at *
    generalize part x 32 32 = x2 at *
    go_wp2_with fail
    have hbW : Below w'.heap.size w' (w1.alloc (.cells #[.int .i64 (x2 : Nat), .int .i64 (x1 : Nat), .int .i64 (x0 : Nat)] 134)) := hb1.trans ((Below.refl _ w1).alloc hb1.size _)
    have e0 : (w1.alloc (.cells #[.int .i64 (x2 : Nat), .int .i64 (x1 : Nat), .int .i64 (x0 : Nat)] 134)).cell? ⟨w1.heap.size, 0, none⟩ = some (.int .i64 (x2 : Nat)) := by go_simp
    have e2 : (w1.alloc (.cells #[.int .i64 (x2 : Nat), .int .i64 (x1 : Nat), .int .i64 (x0 : Nat)] 134)).cell? ⟨w1.heap.size, 2, none⟩ = some (.int .i64 (x0 : Nat)) := by go_simp
    generalize hW : w1.alloc (.cells #[.int .i64 (x2 : Nat), .int .i64 (x1 : Nat), .int .i64 (x0 : Nat)] 134) = W at hbW e0 e2 ⊢
    clear hW
    have f0 := below_cell hbW g0
    have f1 := below_cell hbW g1
    have hgW := hg.below hbW
    have hgD := fun q => hgW.drewN q
    have c1 := hgW.k1
    have c0 := hgW.k0
    have mk : L' w1.heap.size = 0 := hg.new _ hb1.size
    have hkW := ConSim.ext E.cf R E t HK.out (below_ext hbW t L')
    have HCON := fun (q : Nat) => ConSim.ext E.cf R E t (deadB_con (b1 := b1) (kb := w1.heap.size) f1 e0 m1 mk hkW) (below_ext (below_drewN q) t L')
    have HC := Go.Lib.hid HCON
    have hplan := fun q => (hgD q).pl
    have HPL := Go.Lib.hid hplan
    have HGD := Go.Lib.hid hgD
    clear HCON hplan hgD hkW HK hg hgW hb1 g0 g1
    have HBW := Go.Lib.hid hbW
    clear hbW
    go_region_held3 (fun w' => w'.cell? ⟨b0, 0, none⟩ = some (.pointer (some ⟨E.k, 0, none⟩)) ∧ w'.cell? ⟨E.k, 1, none⟩ = some (.pointer (some ⟨E.a, 0, none⟩)) ∧ w'.cell? ⟨E.k, 0, none⟩ = some (.pointer (some ⟨E.p, 0, none⟩)) ∧ w'.cell? ⟨w1.heap.size, 2, none⟩ = some (.int .i64 (x0 : Nat)))
      (first | exact ⟨f0, c1, c0, e2⟩ | exact ⟨hd3.cell0 f0 m0, hg3.k1, hg3.k0, hd3.cell0 e2 mk⟩)
      (first
      | (go_at_call 63; refine (plan_State (HGD.out 1).ok E.p x0 _ (HPL.out 1)).mono ?_; rintro e w2 ⟨rfl, q, rfl⟩)
      | (go_at_call 83; refine (load_any hR (HGD.out _) (HC.out _)).mono ?_; rintro e w3 ⟨v3, L3, rfl, hd3, hg3, hc3⟩))
    all_goals
      go_wp2
      go_ret
      exact ⟨v3, L3, rfl, (below_did (HBW.out.trans (below_below (below_drewN _) HBW.out.size)) t L').trans hd3, hg3, hc3⟩
  | _ => exact absurd ha (by simp [isW])

set_option maxHeartbeats 1000000 in
theorem dead_any (hR : RMono R) {n : Nat} {i : Int} {vk : Value} {c : C ρ} {L : Lab} {w : World} {S : St}
    (hg : Good E L S w) (hk : ConSim E.cf R E t isB n L w vk c) :
    Calls Try.prog 54 #[.pointer (some ⟨E.k, 0, none⟩), .int .i64 i, vk] w (Post E.cf R E t (n + 2) L w (S, some (deadK E.cf i c))) := by
  obtain ⟨f, cap, rfl, hfe, hk⟩ := hk
  have hkk : ConSim E.cf R E t isB n L w (.func (.func f) #[] cap) c := ⟨f, cap, rfl, hfe, hk⟩
  have HK := Go.Lib.hid hkk
  clear hk hkk hfe
  go_enter Try.func54, Try.ntmps54
  go_wp2_with fail
  have hbW : Below w.heap.size w ((w.alloc (.cells #[.pointer (some ⟨E.k, 0, none⟩)] 26)).alloc (.cells #[.func (.func f) #[] cap] 129)) :=
    ((Below.refl _ w).alloc (Nat.le_refl _) _).alloc (by simp) _
  have f0 : ((w.alloc (.cells #[.pointer (some ⟨E.k, 0, none⟩)] 26)).alloc (.cells #[.func (.func f) #[] cap] 129)).cell? ⟨w.heap.size, 0, none⟩ = some (.pointer (some ⟨E.k, 0, none⟩)) := by go_simp
  have f1 : ((w.alloc (.cells #[.pointer (some ⟨E.k, 0, none⟩)] 26)).alloc (.cells #[.func (.func f) #[] cap] 129)).cell? ⟨w.heap.size + 1, 0, none⟩ = some (.func (.func f) #[] cap) := by go_simp
  generalize hW : (w.alloc (.cells #[.pointer (some ⟨E.k, 0, none⟩)] 26)).alloc (.cells #[.func (.func f) #[] cap] 129) = W at hbW f0 f1 ⊢
  clear hW
  have hgW := hg.below hbW
  have hgD := fun q => hgW.drewN q
  have c1 := hgW.k1
  have c0 := hgW.k0
  have m0 : L w.heap.size = 0 := hg.new _ (Nat.le_refl _)
  have m1 : L (w.heap.size + 1) = 0 := hg.new _ (by omega)
  have hkW := ConSim.ext E.cf R E t HK.out (below_ext hbW t L)
  have HCON := fun (q : Nat) => ConSim.ext E.cf R E t (deadA_con (b0 := w.heap.size) (b1 := w.heap.size + 1) hR f0 f1 m0 m1 hkW) (below_ext (below_drewN q) t L)
  have HC := Go.Lib.hid HCON
  have hplan := fun q => (hgD q).pl
  have HPL := Go.Lib.hid hplan
  have HGD := Go.Lib.hid hgD
  clear HCON hplan hgD hkW HK hg hgW
  have HBW := Go.Lib.hid hbW
  clear hbW
  go_region_held3 (fun w' => w'.cell? ⟨w.heap.size, 0, none⟩ = some (.pointer (some ⟨E.k, 0, none⟩)) ∧ w'.cell? ⟨E.k, 1, none⟩ = some (.pointer (some ⟨E.a, 0, none⟩)) ∧ w'.cell? ⟨E.k, 0, none⟩ = some (.pointer (some ⟨E.p, 0, none⟩)))
    (first | exact ⟨f0, c1, c0⟩ | exact ⟨hd3.cell0 f0 m0, hg3.k1, hg3.k0⟩)
    (first
    | (go_at_call 84; refine (plan_Key (HGD.out 1).ok E.p i _ (HPL.out 1)).mono ?_; rintro e w2 ⟨rfl, q, rfl⟩)
    | (go_at_call 83; refine (load_any hR (HGD.out _) (HC.out _)).mono ?_; rintro e w3 ⟨v3, L3, rfl, hd3, hg3, hc3⟩))
  all_goals
    go_wp2
    go_ret
    exact ⟨v3, L3, rfl, (below_did (HBW.out.trans (below_below (below_drewN _) HBW.out.size)) t L).trans hd3, hg3, hc3⟩

theorem field_workers (c : Cf) (w : World) : (Instr.field 48 (.agg #[.int .i64 c.workers, .int .i64 c.levels, .int .i64 c.bits, .int .i64 c.nodes, .int .i64 c.tickets, .int .i64 c.slack, .int .i64 c.first, .int .i64 c.conns, .int .i64 c.timeout, .int .i64 c.base, .int .i64 c.cap, .int .i64 c.jitter, .int .i64 c.attempts]) 0).run Try.prog w = .ok (.int .i64 c.workers) w := by kernel_rfl
theorem field_levels (c : Cf) (w : World) : (Instr.field 48 (.agg #[.int .i64 c.workers, .int .i64 c.levels, .int .i64 c.bits, .int .i64 c.nodes, .int .i64 c.tickets, .int .i64 c.slack, .int .i64 c.first, .int .i64 c.conns, .int .i64 c.timeout, .int .i64 c.base, .int .i64 c.cap, .int .i64 c.jitter, .int .i64 c.attempts]) 1).run Try.prog w = .ok (.int .i64 c.levels) w := by kernel_rfl
theorem field_bits (c : Cf) (w : World) : (Instr.field 48 (.agg #[.int .i64 c.workers, .int .i64 c.levels, .int .i64 c.bits, .int .i64 c.nodes, .int .i64 c.tickets, .int .i64 c.slack, .int .i64 c.first, .int .i64 c.conns, .int .i64 c.timeout, .int .i64 c.base, .int .i64 c.cap, .int .i64 c.jitter, .int .i64 c.attempts]) 2).run Try.prog w = .ok (.int .i64 c.bits) w := by kernel_rfl
theorem field_nodes (c : Cf) (w : World) : (Instr.field 48 (.agg #[.int .i64 c.workers, .int .i64 c.levels, .int .i64 c.bits, .int .i64 c.nodes, .int .i64 c.tickets, .int .i64 c.slack, .int .i64 c.first, .int .i64 c.conns, .int .i64 c.timeout, .int .i64 c.base, .int .i64 c.cap, .int .i64 c.jitter, .int .i64 c.attempts]) 3).run Try.prog w = .ok (.int .i64 c.nodes) w := by kernel_rfl
theorem field_tickets (c : Cf) (w : World) : (Instr.field 48 (.agg #[.int .i64 c.workers, .int .i64 c.levels, .int .i64 c.bits, .int .i64 c.nodes, .int .i64 c.tickets, .int .i64 c.slack, .int .i64 c.first, .int .i64 c.conns, .int .i64 c.timeout, .int .i64 c.base, .int .i64 c.cap, .int .i64 c.jitter, .int .i64 c.attempts]) 4).run Try.prog w = .ok (.int .i64 c.tickets) w := by kernel_rfl
theorem field_slack (c : Cf) (w : World) : (Instr.field 48 (.agg #[.int .i64 c.workers, .int .i64 c.levels, .int .i64 c.bits, .int .i64 c.nodes, .int .i64 c.tickets, .int .i64 c.slack, .int .i64 c.first, .int .i64 c.conns, .int .i64 c.timeout, .int .i64 c.base, .int .i64 c.cap, .int .i64 c.jitter, .int .i64 c.attempts]) 5).run Try.prog w = .ok (.int .i64 c.slack) w := by kernel_rfl

theorem upI_nonneg (d s : Int) : 0 ≤ upI d s ∧ upI d s ≤ 2147483647 := by
  have h1 := clockI_bd d
  have h2 := clockI_bd s
  unfold upI
  generalize clockI d = x at *
  generalize clockI s = y at *
  have h3 : 0 ≤ (x + (y + 1) - 1) / (y + 1) * (y + 1) := Int.mul_nonneg (Int.ediv_nonneg (by omega) (by omega)) (by omega)
  have h4 : (x + (y + 1) - 1) / (y + 1) * (y + 1) ≤ x + (y + 1) - 1 := Int.ediv_mul_le _ (by omega)
  omega
theorem upI_toU (d s : Int) : ((toU (upI d s) : Nat) : Int) = upI d s := by
  have h := upI_nonneg d s
  unfold toU
  omega
theorem toU_lt (i : Int) : toU i < 18446744073709551616 := by unfold toU; omega








end
end Go.Proofs.Ytlbjjooiiikmjaa

