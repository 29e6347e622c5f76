/- The core: what all programs share. -/
import Derived.Test.YtgemjjpmoejgdaaGreatJoinc
namespace Go.Proofs.YtgemjjpmoejgdaaGreat
open Go.RowKit
set_option maxRecDepth 100000
set_option linter.unusedVariables false

set_option maxHeartbeats 400000 in
theorem core_cells {E : G} {L : Lab} {S : St} {w : World} (hg : Good E L S w) :
    Calls Tryz.prog 44 #[.pointer (some ⟨E.k, 0, none⟩)] w fun e w' => e = .returned (.pointer (some ⟨E.a, 0, none⟩)) ∧ w' = w := by
  have h1 := hg.k1
  go_enter Tryz.func44, Tryz.ntmps44
  go_wp2
  go_ret
  exact ⟨rfl, rfl⟩
set_option maxHeartbeats 400000 in
theorem core_plan {E : G} {L : Lab} {S : St} {w : World} (hg : Good E L S w) :
    Calls Tryz.prog 47 #[.pointer (some ⟨E.k, 0, none⟩)] w fun e w' => e = .returned (.pointer (some ⟨E.p, 0, none⟩)) ∧ w' = w := by
  have h1 := hg.k0
  go_enter Tryz.func47, Tryz.ntmps47
  go_wp2
  go_ret
  exact ⟨rfl, rfl⟩

theorem part_lt (x s n : Nat) : part x s n < 2 ^ n := Nat.mod_lt _ (Nat.two_pow_pos n)

section
variable {ρ : Type} {R : ρ → Arg → St → St × Option (K ρ)} {E : G} {t : Nat}

theorem enters_deadB : EntersF 200 := enters_of Tryz.func200 (by kernel_rfl) rfl
theorem enters_deadA : EntersF 199 := enters_of Tryz.func199 (by kernel_rfl) rfl

set_option maxHeartbeats 1000000 in
theorem deadB_con {n : Nat} {gen : Int} {vk : Value} {c : C ρ} {L : Lab} {w : World} {b1 kb : Nat}
    (h1 : w.cell? ⟨b1, 0, none⟩ = some vk) (h2 : w.cell? ⟨kb, 0, none⟩ = some (.int .i64 gen)) (l1 : L b1 = 0) (l2 : L kb = 0) (hk : ConSim E.cf R E t isB n L w vk c) :
    ConSim E.cf R E t isW n L w (.func (.func 200) #[] #[.pointer (some ⟨b1, 0, none⟩), .pointer (some ⟨kb, 0, none⟩)]) (.deadB gen c) := by
  refine ⟨_, _, rfl, enters_deadB, ?_⟩
  intro a L' w' S ha hx hg hbd
  cases a with
  | w x =>
    have hx64 : x < 18446744073709551616 := ha
    obtain ⟨f, cap, rfl, hf, hk⟩ := hk
    have hf' : ∀ (args : Array Value) (w : World), (callFunc f args).run Tryz.prog w = .ok (.enter f args) w := hf
    have g1 := hx.cell0 h1 l1
    have g2 := hx.cell0 h2 l2
    show Calls _ _ #[_, _, _] _ _
    have hk1 : ∀ (d : Bool) (w1 : World), d = decide (¬ (part x 0 2 = 1) ∨ ¬ (((part x 32 32 : Nat) : Int) = gen)) → Below w'.heap.size w' w1 → Calls Tryz.prog f (#[.bool d] ++ cap) w1 (Post E.cf R E t n L' w1 (app E.cf R (.deadB gen c) (.w x) S)) := by
      intro d w1 hd hb
      subst hd
      exact hk (.b _) L' w1 S trivial (hx.trans (below_ext hb t L')) (hg.below hb) hbd
    have HK := Go.Lib.hid hk1
    clear hk1 hk hx hg hbd
    generalize app E.cf R (.deadB gen c) (.w x) S = r at *
    have q1 := cell_lt g1
    have q2 := cell_lt g2
    go_enter Tryz.func200, Tryz.ntmps200
    go_wp2_with fail
    refine (of_StateOf x _ hx64).mono ?_
    rintro e w1 ⟨rfl, hb1⟩
    have g1' := below_cell hb1 g1
    have g2' := below_cell hb1 g2
    have q1' := cell_lt g1'
    have q2' := cell_lt g2'
    have HB := Go.Lib.hid hb1
    clear hb1 g1 g2 q1 q2
    generalize hs2 : part x 0 2 = s2 at *
    generalize hs0 : part x 32 32 = s0 at *
    generalize part x 2 30 = s1 at *
    have HS2 := Go.Lib.hid hs2
    have HS0 := Go.Lib.hid hs0
    clear hs2 hs0 hx64 ha h1 h2 l1 l2
    by_cases hs : s2 = 1
    · have b1 : (((s2 : Nat) : Int) != 1) = false := by simp [hs]
      by_cases hq : ((s0 : Nat) : Int) = gen
      · have b2 : (((s0 : Nat) : Int) != gen) = false := by simp [hq]
        have HD : Hid (false = decide (¬ (s2 = 1) ∨ ¬ (((s0 : Nat) : Int) = gen))) := by unfold Hid; simp [hs, hq]
        clear hs hq
        go_wp2_with (go_at_fn f; refine (HK.out false _ HD.out (HB.out.trans ((Below.refl _ w1).alloc HB.out.size _))).mono ?_; rintro e w2 ⟨v2, L2, rfl, hd2, hg2, hc2⟩)
        go_ret
        exact ⟨v2, L2, rfl, (below_did (HB.out.trans ((Below.refl _ w1).alloc HB.out.size _)) t L').trans hd2, hg2, hc2⟩
      · have b2 : (((s0 : Nat) : Int) != gen) = true := by simp [hq]
        have HD : Hid (true = decide (¬ (s2 = 1) ∨ ¬ (((s0 : Nat) : Int) = gen))) := by unfold Hid; simp [hq]
        clear hs hq
        go_wp2_with (go_at_fn f; refine (HK.out true _ HD.out (HB.out.trans ((Below.refl _ w1).alloc HB.out.size _))).mono ?_; rintro e w2 ⟨v2, L2, rfl, hd2, hg2, hc2⟩)
        go_ret
        exact ⟨v2, L2, rfl, (below_did (HB.out.trans ((Below.refl _ w1).alloc HB.out.size _)) t L').trans hd2, hg2, hc2⟩
    · have b1 : (((s2 : Nat) : Int) != 1) = true := by simp; omega
      have HD : Hid (true = decide (¬ (s2 = 1) ∨ ¬ (((s0 : Nat) : Int) = gen))) := by unfold Hid; simp [hs]
      clear hs
      go_wp2_with (go_at_fn f; refine (HK.out true _ HD.out (HB.out.trans ((Below.refl _ w1).alloc HB.out.size _))).mono ?_; rintro e w2 ⟨v2, L2, rfl, hd2, hg2, hc2⟩)
      go_ret
      exact ⟨v2, L2, rfl, (below_did (HB.out.trans ((Below.refl _ w1).alloc HB.out.size _)) t L').trans hd2, hg2, hc2⟩
  | _ => exact absurd ha (by simp [isW])

theorem Good.cells {L : Lab} {S : St} {w : World} (h : Good E L S w) : w.cell? ⟨E.k, 1, none⟩ = some (.pointer (some ⟨E.a, 0, none⟩)) ∧ w.cell? ⟨E.k, 0, none⟩ = some (.pointer (some ⟨E.p, 0, none⟩)) := ⟨h.k1, h.k0⟩

theorem below_below {w w1 w2 : World} (h : Below w1.heap.size w1 w2) (hs : w.heap.size ≤ w1.heap.size) : Below w.heap.size w1 w2 := h.mono hs

set_option maxHeartbeats 1000000 in
theorem deadA_con (hR : RMono R) {n : Nat} {vk : Value} {c : C ρ} {L : Lab} {w : World} {b0 b1 : Nat}
    (h0 : w.cell? ⟨b0, 0, none⟩ = some (.pointer (some ⟨E.k, 0, none⟩))) (h1 : w.cell? ⟨b1, 0, none⟩ = some vk) (l0 : L b0 = 0) (l1 : L b1 = 0) (hk : ConSim E.cf R E t isB n L w vk c) :
    ConSim E.cf R E t isW (n + 1) L w (.func (.func 199) #[] #[.pointer (some ⟨b0, 0, none⟩), .pointer (some ⟨b1, 0, none⟩)]) (.deadA c) := by
  refine ⟨_, _, rfl, enters_deadA, ?_⟩
  intro a L' w' S ha hx hg hbd
  cases a with
  | w x =>
    have hx64 : x < 18446744073709551616 := ha
    have g0 := hx.cell0 h0 l0
    have g1 := hx.cell0 h1 l1
    have m0 : L' b0 = 0 := (hx.lab b0 (cell_lt h0)).trans l0
    have m1 : L' b1 = 0 := (hx.lab b1 (cell_lt h1)).trans l1
    have hk' := ConSim.ext E.cf R E t hk hx
    show Calls _ _ #[_, _, _] _ _
    have hr : app E.cf R (.deadA c) (.w x) S = (S, some (.load (E.cf.state (part x 0 16 : Nat)) (.deadB (part x 32 32 : Nat) c))) := by unfold app; rfl
    rw [hr]
    clear hr hbd hk h0 h1 l0 l1 hx
    have HK := Go.Lib.hid hk'
    clear hk'
    go_enter Tryz.func199, Tryz.ntmps199
    go_wp2_with fail
    refine (of_KeyOf x _ hx64).mono ?_
    rintro e w1 ⟨rfl, hb1⟩
    have hlt := part_lt x 0 16
    generalize part x 0 16 = x0 at *
    generalize part x 16 16 = x1 at *
    generalize part x 32 32 = x2 at *
    go_wp2_with fail
    have hbW : Below w'.heap.size w' (w1.alloc (.cells #[.int .i64 (x2 : Nat), .int .i64 (x1 : Nat), .int .i64 (x0 : Nat)] 56)) := hb1.trans ((Below.refl _ w1).alloc hb1.size _)
    have e0 : (w1.alloc (.cells #[.int .i64 (x2 : Nat), .int .i64 (x1 : Nat), .int .i64 (x0 : Nat)] 56)).cell? ⟨w1.heap.size, 0, none⟩ = some (.int .i64 (x2 : Nat)) := by go_simp
    have e2 : (w1.alloc (.cells #[.int .i64 (x2 : Nat), .int .i64 (x1 : Nat), .int .i64 (x0 : Nat)] 56)).cell? ⟨w1.heap.size, 2, none⟩ = some (.int .i64 (x0 : Nat)) := by go_simp
    generalize hW : w1.alloc (.cells #[.int .i64 (x2 : Nat), .int .i64 (x1 : Nat), .int .i64 (x0 : Nat)] 56) = W at hbW e0 e2 ⊢
    clear hW
    have f0 := below_cell hbW g0
    have f1 := below_cell hbW g1
    have hgW := hg.below hbW
    have hgD := fun q => hgW.drewN q
    have c1 := hgW.k1
    have c0 := hgW.k0
    have mk : L' w1.heap.size = 0 := hg.new _ hb1.size
    have hkW := ConSim.ext E.cf R E t HK.out (below_ext hbW t L')
    have HCON := fun (q : Nat) => ConSim.ext E.cf R E t (deadB_con (b1 := b1) (kb := w1.heap.size) f1 e0 m1 mk hkW) (below_ext (below_drewN q) t L')
    have HC := Go.Lib.hid HCON
    have hplan := fun q => (hgD q).pl
    have HPL := Go.Lib.hid hplan
    have HGD := Go.Lib.hid hgD
    clear HCON hplan hgD hkW HK hg hgW hb1 g0 g1
    have HBW := Go.Lib.hid hbW
    clear hbW
    go_region_held3 (fun w' => w'.cell? ⟨b0, 0, none⟩ = some (.pointer (some ⟨E.k, 0, none⟩)) ∧ w'.cell? ⟨E.k, 1, none⟩ = some (.pointer (some ⟨E.a, 0, none⟩)) ∧ w'.cell? ⟨E.k, 0, none⟩ = some (.pointer (some ⟨E.p, 0, none⟩)) ∧ w'.cell? ⟨w1.heap.size, 2, none⟩ = some (.int .i64 (x0 : Nat)))
      (first | exact ⟨f0, c1, c0, e2⟩ | exact ⟨hd3.cell0 f0 m0, hg3.k1, hg3.k0, hd3.cell0 e2 mk⟩)
      (first
      | (go_at_call 139; refine (plan_State (HGD.out 1).ok E.p x0 _ (HPL.out 1)).mono ?_; rintro e w2 ⟨rfl, q, rfl⟩)
      | (go_at_call 91; refine (load_any hR (HGD.out _) (HC.out _)).mono ?_; rintro e w3 ⟨v3, L3, rfl, hd3, hg3, hc3⟩))
    all_goals
      go_wp2
      go_ret
      exact ⟨v3, L3, rfl, (below_did (HBW.out.trans (below_below (below_drewN _) HBW.out.size)) t L').trans hd3, hg3, hc3⟩
  | _ => exact absurd ha (by simp [isW])

set_option maxHeartbeats 1000000 in
theorem dead_any (hR : RMono R) {n : Nat} {i : Int} {vk : Value} {c : C ρ} {L : Lab} {w : World} {S : St}
    (hg : Good E L S w) (hk : ConSim E.cf R E t isB n L w vk c) :
    Calls Tryz.prog 113 #[.pointer (some ⟨E.k, 0, none⟩), .int .i64 i, vk] w (Post E.cf R E t (n + 2) L w (S, some (deadK E.cf i c))) := by
  obtain ⟨f, cap, rfl, hfe, hk⟩ := hk
  have hkk : ConSim E.cf R E t isB n L w (.func (.func f) #[] cap) c := ⟨f, cap, rfl, hfe, hk⟩
  have HK := Go.Lib.hid hkk
  clear hk hkk hfe
  go_enter Tryz.func113, Tryz.ntmps113
  go_wp2_with fail
  have hbW : Below w.heap.size w ((w.alloc (.cells #[.pointer (some ⟨E.k, 0, none⟩)] 28)).alloc (.cells #[.func (.func f) #[] cap] 114)) :=
    ((Below.refl _ w).alloc (Nat.le_refl _) _).alloc (by simp) _
  have f0 : ((w.alloc (.cells #[.pointer (some ⟨E.k, 0, none⟩)] 28)).alloc (.cells #[.func (.func f) #[] cap] 114)).cell? ⟨w.heap.size, 0, none⟩ = some (.pointer (some ⟨E.k, 0, none⟩)) := by go_simp
  have f1 : ((w.alloc (.cells #[.pointer (some ⟨E.k, 0, none⟩)] 28)).alloc (.cells #[.func (.func f) #[] cap] 114)).cell? ⟨w.heap.size + 1, 0, none⟩ = some (.func (.func f) #[] cap) := by go_simp
  generalize hW : (w.alloc (.cells #[.pointer (some ⟨E.k, 0, none⟩)] 28)).alloc (.cells #[.func (.func f) #[] cap] 114) = W at hbW f0 f1 ⊢
  clear hW
  have hgW := hg.below hbW
  have hgD := fun q => hgW.drewN q
  have c1 := hgW.k1
  have c0 := hgW.k0
  have m0 : L w.heap.size = 0 := hg.new _ (Nat.le_refl _)
  have m1 : L (w.heap.size + 1) = 0 := hg.new _ (by omega)
  have hkW := ConSim.ext E.cf R E t HK.out (below_ext hbW t L)
  have HCON := fun (q : Nat) => ConSim.ext E.cf R E t (deadA_con (b0 := w.heap.size) (b1 := w.heap.size + 1) hR f0 f1 m0 m1 hkW) (below_ext (below_drewN q) t L)
  have HC := Go.Lib.hid HCON
  have hplan := fun q => (hgD q).pl
  have HPL := Go.Lib.hid hplan
  have HGD := Go.Lib.hid hgD
  clear HCON hplan hgD hkW HK hg hgW
  have HBW := Go.Lib.hid hbW
  clear hbW
  go_region_held3 (fun w' => w'.cell? ⟨w.heap.size, 0, none⟩ = some (.pointer (some ⟨E.k, 0, none⟩)) ∧ w'.cell? ⟨E.k, 1, none⟩ = some (.pointer (some ⟨E.a, 0, none⟩)) ∧ w'.cell? ⟨E.k, 0, none⟩ = some (.pointer (some ⟨E.p, 0, none⟩)))
    (first | exact ⟨f0, c1, c0⟩ | exact ⟨hd3.cell0 f0 m0, hg3.k1, hg3.k0⟩)
    (first
    | (go_at_call 50; refine (plan_Key (HGD.out 1).ok E.p i _ (HPL.out 1)).mono ?_; rintro e w2 ⟨rfl, q, rfl⟩)
    | (go_at_call 91; refine (load_any hR (HGD.out _) (HC.out _)).mono ?_; rintro e w3 ⟨v3, L3, rfl, hd3, hg3, hc3⟩))
  all_goals
    go_wp2
    go_ret
    exact ⟨v3, L3, rfl, (below_did (HBW.out.trans (below_below (below_drewN _) HBW.out.size)) t L).trans hd3, hg3, hc3⟩

theorem field_slack (c : Cf) (w : World) : (Instr.field 126 (.agg #[.int .i64 c.workers, .int .i64 c.levels, .int .i64 c.bits, .int .i64 c.nodes, .int .i64 c.tickets, .int .i64 c.slack, .int .i64 c.first, .int .i64 c.conns, .int .i64 c.timeout, .int .i64 c.base, .int .i64 c.cap, .int .i64 c.jitter, .int .i64 c.attempts]) 5).run Tryz.prog w = .ok (.int .i64 c.slack) w := by kernel_rfl

theorem upI_nonneg (d s : Int) : 0 ≤ upI d s ∧ upI d s ≤ 2147483647 := by
  have h1 := clockI_bd d
  have h2 := clockI_bd s
  unfold upI
  generalize clockI d = x at *
  generalize clockI s = y at *
  have h3 : 0 ≤ (x + (y + 1) - 1) / (y + 1) * (y + 1) := Int.mul_nonneg (Int.ediv_nonneg (by omega) (by omega)) (by omega)
  have h4 : (x + (y + 1) - 1) / (y + 1) * (y + 1) ≤ x + (y + 1) - 1 := Int.ediv_mul_le _ (by omega)
  omega
theorem upI_toU (d s : Int) : ((toU (upI d s) : Nat) : Int) = upI d s := by
  have h := upI_nonneg d s
  unfold toU
  omega
theorem toU_lt (i : Int) : toU i < 18446744073709551616 := by unfold toU; omega

theorem enters_write1 : EntersF 111 := enters_of Tryz.func111 (by kernel_rfl) rfl

set_option maxHeartbeats 1000000 in
theorem writeA_con (hR : RMono R) {n : Nat} {tt d : Int} {vk : Value} {c : C ρ} {L : Lab} {w : World} {b0 b1 b2 b3 : Nat}
    (h0 : w.cell? ⟨b0, 0, none⟩ = some (.pointer (some ⟨E.k, 0, none⟩))) (h1 : w.cell? ⟨b1, 0, none⟩ = some (.int .i64 tt)) (h2 : w.cell? ⟨b2, 0, none⟩ = some (.int .u64 (toU d : Nat))) (h3 : w.cell? ⟨b3, 0, none⟩ = some vk)
    (l0 : L b0 = 0) (l1 : L b1 = 0) (l2 : L b2 = 0) (l3 : L b3 = 0) (hk : ConSim E.cf R E t isU n L w vk c) :
    ConSim E.cf R E t isU (n + 1) L w (.func (.func 111) #[] #[.pointer (some ⟨b0, 0, none⟩), .pointer (some ⟨b1, 0, none⟩), .pointer (some ⟨b2, 0, none⟩), .pointer (some ⟨b3, 0, none⟩)]) (.writeA tt d c) := by
  refine ⟨_, _, rfl, enters_write1, ?_⟩
  intro a L' w' S ha hx hg hbd
  cases a with
  | u =>
    have f0 := hx.cell0 h0 l0
    have f1 := hx.cell0 h1 l1
    have f2 := hx.cell0 h2 l2
    have f3 := hx.cell0 h3 l3
    have m0 : L' b0 = 0 := (hx.lab b0 (cell_lt h0)).trans l0
    have m1 : L' b1 = 0 := (hx.lab b1 (cell_lt h1)).trans l1
    have m2 : L' b2 = 0 := (hx.lab b2 (cell_lt h2)).trans l2
    have m3 : L' b3 = 0 := (hx.lab b3 (cell_lt h3)).trans l3
    have hk' := ConSim.ext E.cf R E t hk hx
    show Calls _ _ #[_, _, _, _] _ _
    have hr : app E.cf R (.writeA tt d c) .u S = (S, some (.store (E.cf.time tt) (toU d) c)) := by unfold app; rfl
    rw [hr]
    clear hr hbd hk h0 h1 h2 h3 l0 l1 l2 l3 hx
    have hgD := fun q => hg.drewN q
    have c1 := hg.k1
    have c0 := hg.k0
    have HCON := fun (q : Nat) => ConSim.ext E.cf R E t hk' (below_ext (below_drewN q) t L')
    have HC := Go.Lib.hid HCON
    have hplan := fun q => (hgD q).pl
    have HPL := Go.Lib.hid hplan
    have HGD := Go.Lib.hid hgD
    have hlt := toU_lt d
    generalize toU d = x at *
    have HLT := Go.Lib.hid hlt
    obtain ⟨f, cap, rfl, _⟩ := hk'
    clear HCON hplan hgD hg hlt
    go_enter Tryz.func111, Tryz.ntmps111
    go_wp2_with fail
    go_region_held3 (fun w' => w'.cell? ⟨b0, 0, none⟩ = some (.pointer (some ⟨E.k, 0, none⟩)) ∧ w'.cell? ⟨E.k, 1, none⟩ = some (.pointer (some ⟨E.a, 0, none⟩)) ∧ w'.cell? ⟨E.k, 0, none⟩ = some (.pointer (some ⟨E.p, 0, none⟩)) ∧
        w'.cell? ⟨b1, 0, none⟩ = some (.int .i64 tt) ∧ w'.cell? ⟨b2, 0, none⟩ = some (.int .u64 (x : Nat)) ∧ w'.cell? ⟨b3, 0, none⟩ = some (.func (.func f) #[] cap))
      (first | exact ⟨f0, c1, c0, f1, f2, f3⟩ | exact ⟨hd3.cell0 f0 m0, hg3.k1, hg3.k0, hd3.cell0 f1 m1, hd3.cell0 f2 m2, hd3.cell0 f3 m3⟩)
      (first
      | (go_at_call 97; refine (plan_Time (HGD.out 1).ok E.p tt _ (HPL.out 1)).mono ?_; rintro e w2 ⟨rfl, q, rfl⟩)
      | (go_at_call 110; refine (store_any hR HLT.out (HGD.out _) (HC.out _)).mono ?_; rintro e w3 ⟨v3, L3, rfl, hd3, hg3, hc3⟩))
    all_goals
      go_wp2
      go_ret
      exact ⟨v3, L3, rfl, (below_did (below_drewN _) t L').trans hd3, hg3, hc3⟩
  | _ => exact absurd ha (by simp [isU])

set_option maxHeartbeats 2000000 in
theorem write_any (hR : RMono R) {n : Nat} {tt g v nd d : Int} {vk : Value} {c : C ρ} {L : Lab} {w : World} {S : St}
    (hg : Good E L S w) (hgb : g < 9223372036854775808) (hvb : v < 9223372036854775808) (hnb : nd < 9223372036854775808) (hk : ConSim E.cf R E t isU n L w vk c) :
    Calls Tryz.prog 28 #[.pointer (some ⟨E.k, 0, none⟩), .int .i64 tt, .agg #[.int .i64 g, .int .i64 v, .int .i64 nd], .int .i64 d, vk] w (Post E.cf R E t (n + 2) L w (S, some (writeK E.cf tt g v nd d c))) := by
  obtain ⟨f, cap, rfl, hfe, hk⟩ := hk
  have hkk : ConSim E.cf R E t isU n L w (.func (.func f) #[] cap) c := ⟨f, cap, rfl, hfe, hk⟩
  have HK := Go.Lib.hid hkk
  clear hk hkk hfe
  have hkw : keyWord g v nd < 18446744073709551616 := packed_lt _ _ (by decide) rfl
  have HKW := Go.Lib.hid hkw
  clear hkw
  go_enter Tryz.func28, Tryz.ntmps28
  go_wp2_with fail
  refine (word_Key g v nd _ hgb hvb hnb).mono ?_
  rintro e w1 ⟨rfl, hb1⟩
  obtain ⟨hc1, _⟩ := bcells hb1
  have f0 : w1.cell? ⟨w.heap.size, 0, none⟩ = some (.pointer (some ⟨E.k, 0, none⟩)) := by rw [hc1 _ _ (by simp; omega)]; go_simp
  have f1 : w1.cell? ⟨w.heap.size + 1, 0, none⟩ = some (.int .i64 tt) := by rw [hc1 _ _ (by simp <;> omega)]; go_simp
  have f3 : w1.cell? ⟨w.heap.size + 1 + 1 + 1, 0, none⟩ = some (.func (.func f) #[] cap) := by rw [hc1 _ _ (by simp)]; go_simp
  have hbW : Below w.heap.size w w1 := ((((Below.refl _ w).alloc (Nat.le_refl _) _).alloc (by simp) _).alloc (by simp; omega) _ |>.alloc (by simp; omega) _).trans (hb1.mono (by simp; omega))
  clear hc1 hb1
  have hgW := hg.below hbW
  have HG := Go.Lib.hid hgW
  have HBW := Go.Lib.hid hbW
  have hu := upI_nonneg d E.cf.slack
  have HU := Go.Lib.hid (upI_toU d E.cf.slack)
  have HUP := Go.Lib.hid (up_any d E.cf.slack)
  have HKE : Hid (writeK E.cf tt g v nd d c = .store (E.cf.key tt) (packed [32, 16, 16] [g, v, nd]).1 (.writeA tt (upI d E.cf.slack) c)) := rfl
  have HKW2 : Hid ((packed [32, 16, 16] [g, v, nd]).1 < 18446744073709551616) := HKW.out
  generalize (packed [32, 16, 16] [g, v, nd]).1 = kw at *
  generalize (packed [32, 16, 16] [g, v, nd]).2 = ke at *
  generalize upI d E.cf.slack = up at *
  clear HKW hgW hbW
  go_wp2_with fail
  refine (core_config HG.out).mono ?_
  rintro e w2 ⟨rfl, hb2⟩
  have f0' := below_cell hb2 f0
  have f1' := below_cell hb2 f1
  have f3' := below_cell hb2 f3
  have HB2 := Go.Lib.hid hb2
  clear f0 f1 f3 hb2
  have hfld := field_slack E.cf
  simp only [Cf.vals]
  go_wp2_with fail
  refine ((HUP.out _).mono fun _ _ h => Qt.below h).mono ?_
  rintro e w3 ⟨rfl, hb3⟩
  have f0 := below_cell hb3 f0'
  have f1 := below_cell hb3 f1'
  have f3 := below_cell hb3 f3'
  have HB3 := Go.Lib.hid (HBW.out.trans ((HB2.out.trans (hb3.mono HB2.out.size)).mono HBW.out.size))
  clear f0' f1' f3' hb3 HB2
  go_wp2_with fail
  have hbW : Below w.heap.size w (w3.alloc (.cells #[.int .u64 up] 92)) := HB3.out.trans ((Below.refl _ w3).alloc HB3.out.size _)
  have e2 : (w3.alloc (.cells #[.int .u64 up] 92)).cell? ⟨w3.heap.size, 0, none⟩ = some (.int .u64 (toU up : Nat)) := by rw [HU.out]; go_simp
  have hb4 : Below w3.heap.size w3 (w3.alloc (.cells #[.int .u64 up] 92)) := (Below.refl _ w3).alloc (Nat.le_refl _) _
  generalize hW : w3.alloc (.cells #[.int .u64 up] 92) = W at hbW e2 hb4 ⊢
  clear hW
  have g0 := below_cell hb4 f0
  have g1 := below_cell hb4 f1
  have g3 := below_cell hb4 f3
  have hgW := hg.below hbW
  have hgD := fun q => hgW.drewN q
  have c1 := hgW.k1
  have c0 := hgW.k0
  have m0 : L w.heap.size = 0 := hg.new _ (Nat.le_refl _)
  have m1 : L (w.heap.size + 1) = 0 := hg.new _ (by omega)
  have m3 : L (w.heap.size + 1 + 1 + 1) = 0 := hg.new _ (by omega)
  have m2 : L w3.heap.size = 0 := hg.new _ HB3.out.size
  have hkW := ConSim.ext E.cf R E t HK.out (below_ext hbW t L)
  have HCON := fun (q : Nat) => ConSim.ext E.cf R E t (writeA_con (b0 := w.heap.size) (b1 := w.heap.size + 1) (b2 := w3.heap.size) (b3 := w.heap.size + 1 + 1 + 1) hR g0 g1 e2 g3 m0 m1 m2 m3 hkW) (below_ext (below_drewN q) t L)
  have HC := Go.Lib.hid HCON
  have hplan := fun q => (hgD q).pl
  have HPL := Go.Lib.hid hplan
  have HGD := Go.Lib.hid hgD
  have HBF := Go.Lib.hid hbW
  clear HCON hplan hgD hkW HK hgW HG hbW hb4 f0 f1 f3 hg
  go_region_held3 (fun w' => w'.cell? ⟨w.heap.size, 0, none⟩ = some (.pointer (some ⟨E.k, 0, none⟩)) ∧ w'.cell? ⟨E.k, 1, none⟩ = some (.pointer (some ⟨E.a, 0, none⟩)) ∧ w'.cell? ⟨E.k, 0, none⟩ = some (.pointer (some ⟨E.p, 0, none⟩)) ∧ w'.cell? ⟨w.heap.size + 1, 0, none⟩ = some (.int .i64 tt))
    (first | exact ⟨g0, c1, c0, g1⟩ | exact ⟨hd5.cell0 g0 m0, hg5.k1, hg5.k0, hd5.cell0 g1 m1⟩)
    (first
    | (go_at_call 50; refine (plan_Key (HGD.out 1).ok E.p tt _ (HPL.out 1)).mono ?_; rintro e w4 ⟨rfl, q, rfl⟩)
    | (go_at_call 110; refine (store_any hR HKW2.out (HGD.out _) (HC.out _)).mono ?_; rintro e w5 ⟨v5, L5, rfl, hd5, hg5, hc5⟩))
  all_goals
    go_wp2
    go_ret
    exact ⟨v5, L5, rfl, (below_did (HBF.out.trans (below_below (below_drewN _) HBF.out.size)) t L).trans hd5, hg5, by show CodeSim _ _ _ _ _ _ _ _ (some _); rw [HKE.out]; exact hc5⟩





end
end Go.Proofs.YtgemjjpmoejgdaaGreat
/- Making a core: the plan, the arena, the fresh cells. -/
namespace Go.Proofs.YtgemjjpmoejgdaaGreat
open Go.RowKit
set_option maxRecDepth 100000
set_option linter.unusedVariables false

set_option maxHeartbeats 1000000 in
theorem plan_list (c : Cf) (w : World) :
    Calls Tryz.prog 256 #[.agg c.vals] w fun e w' => e = .returned (.agg c.vals) ∧ Below w.heap.size w w' := by
  unfold Cf.vals
  go_enter Tryz.func256, Tryz.ntmps256
  go_wp2
  refine bodyPost_ret (v := .agg c.vals) (by simp [results, Tryz.results256, go_sem, Cf.vals]) rfl ⟨by unfold Cf.vals; rfl, ?_⟩
  exact ((Below.refl _ _).alloc (Nat.le_refl _) _).alloc (by simp) _

/-- A configuration's numbers, by their places. -/
def Cf.nth (c : Cf) (k : Nat) : Nat := [c.workers, c.levels, c.bits, c.nodes, c.tickets, c.slack, c.first, c.conns, c.timeout, c.base, c.cap, c.jitter, c.attempts].getD k 0
def loOf (k : Nat) : Nat := [1, 1, 1, 1, 1, 0, 0, 0, 1, 1, 1, 0, 0].getD k 0
def hiOf (k : Nat) : Nat := [64, 8, 6, 4096, 8192, 1073741823, 4294967295, 256, 1073741823, 1073741823, 1073741823, 1073741823, 31].getD k 0
theorem Cf.Ok.nth {c : Cf} (h : c.Ok) : ∀ k, k < 13 → loOf k ≤ c.nth k ∧ c.nth k ≤ hiOf k
  | 0, _ => ⟨by show 1 ≤ c.workers; have := h.w1; omega, by show c.workers ≤ 64; have := h.w2; omega⟩
  | 1, _ => ⟨by show 1 ≤ c.levels; have := h.l1; omega, by show c.levels ≤ 8; have := h.l2; omega⟩
  | 2, _ => ⟨by show 1 ≤ c.bits; have := h.b1; omega, by show c.bits ≤ 6; have := h.b2; omega⟩
  | 3, _ => ⟨by show 1 ≤ c.nodes; have := h.n1; omega, by show c.nodes ≤ 4096; have := h.n2; omega⟩
  | 4, _ => ⟨by show 1 ≤ c.tickets; have := h.t1; omega, by show c.tickets ≤ 8192; have := h.t2; omega⟩
  | 5, _ => ⟨by show 0 ≤ c.slack; have := h.s2; omega, by show c.slack ≤ 1073741823; have := h.s2; omega⟩
  | 6, _ => ⟨by show 0 ≤ c.first; have := h.f2; omega, by show c.first ≤ 4294967295; have := h.f2; omega⟩
  | 7, _ => ⟨by show 0 ≤ c.conns; have := h.c2; omega, by show c.conns ≤ 256; have := h.c2; omega⟩
  | 8, _ => ⟨by show 1 ≤ c.timeout; have := h.o1; omega, by show c.timeout ≤ 1073741823; have := h.o2; omega⟩
  | 9, _ => ⟨by show 1 ≤ c.base; have := h.a1; omega, by show c.base ≤ 1073741823; have := h.a2; omega⟩
  | 10, _ => ⟨by show 1 ≤ c.cap; have := h.p1; omega, by show c.cap ≤ 1073741823; have := h.p2; omega⟩
  | 11, _ => ⟨by show 0 ≤ c.jitter; have := h.j2; omega, by show c.jitter ≤ 1073741823; have := h.j2; omega⟩
  | 12, _ => ⟨by show 0 ≤ c.attempts; have := h.r2; omega, by show c.attempts ≤ 31; have := h.r2; omega⟩
  | k + 13, h => absurd h (by omega)
theorem index_cf (c : Cf) (w : World) : ∀ k, k < 13 → (Instr.index 22 (.agg #[.int .i64 c.workers, .int .i64 c.levels, .int .i64 c.bits, .int .i64 c.nodes, .int .i64 c.tickets, .int .i64 c.slack, .int .i64 c.first, .int .i64 c.conns, .int .i64 c.timeout, .int .i64 c.base, .int .i64 c.cap, .int .i64 c.jitter, .int .i64 c.attempts]) (.int .i64 (k : Nat))).run Tryz.prog w = .ok (.int .i64 (c.nth k : Nat)) w
  | 0, _ => by kernel_rfl
  | 1, _ => by kernel_rfl
  | 2, _ => by kernel_rfl
  | 3, _ => by kernel_rfl
  | 4, _ => by kernel_rfl
  | 5, _ => by kernel_rfl
  | 6, _ => by kernel_rfl
  | 7, _ => by kernel_rfl
  | 8, _ => by kernel_rfl
  | 9, _ => by kernel_rfl
  | 10, _ => by kernel_rfl
  | 11, _ => by kernel_rfl
  | 12, _ => by kernel_rfl
  | k + 13, h => absurd h (by omega)


theorem wpList_value {P : Program} {ops : Array Oper} {Q : Exit → Act → World → Prop} {o : Oper} {rest : List Oper} {a : Act} {w : World} (hg : o.guard = none) (v : Value)
    (hrun : (execOp a.eval o).run P w = .ok (.value v) w) (h : wpList P ops Q rest (a.put o.dst v) w) : wpList P ops Q (o :: rest) a w :=
  wpList_plain hg fun K hK => by
    unfold Oper.wp
    rw [hrun]
    exact hK _ _ h

def spanVals : List Value := [.int .i64 1, .int .i64 64, .int .i64 1, .int .i64 8, .int .i64 1, .int .i64 6, .int .i64 1, .int .i64 4096, .int .i64 1, .int .i64 8192, .int .i64 0, .int .i64 1073741823, .int .i64 0, .int .i64 4294967295, .int .i64 0, .int .i64 256, .int .i64 1, .int .i64 1073741823, .int .i64 1, .int .i64 1073741823, .int .i64 1, .int .i64 1073741823, .int .i64 0, .int .i64 1073741823, .int .i64 0, .int .i64 31]
theorem spanVals_lo : ∀ k, k < 13 → spanVals[k * 2]? = some (.int .i64 (loOf k : Nat))
  | 0, _ => rfl
  | 1, _ => rfl
  | 2, _ => rfl
  | 3, _ => rfl
  | 4, _ => rfl
  | 5, _ => rfl
  | 6, _ => rfl
  | 7, _ => rfl
  | 8, _ => rfl
  | 9, _ => rfl
  | 10, _ => rfl
  | 11, _ => rfl
  | 12, _ => rfl
  | k + 13, h => absurd h (by omega)
theorem spanVals_hi : ∀ k, k < 13 → spanVals[k * 2 + 1]? = some (.int .i64 (hiOf k : Nat))
  | 0, _ => rfl
  | 1, _ => rfl
  | 2, _ => rfl
  | 3, _ => rfl
  | 4, _ => rfl
  | 5, _ => rfl
  | 6, _ => rfl
  | 7, _ => rfl
  | 8, _ => rfl
  | 9, _ => rfl
  | 10, _ => rfl
  | 11, _ => rfl
  | 12, _ => rfl
  | k + 13, h => absurd h (by omega)
theorem there_alloc_new (w : World) (c : Array Value) (t : TypeId) (n : Nat) (hn : n = c.size) : (w.alloc (.cells c t)).there w.heap.size 0 n := by
  intro j hj
  have hb := heap_alloc_new w (.cells c t)
  refine ⟨?_, ?_⟩
  · rw [cell_of_row _ _ _ _ _ _ hb]; simp; omega
  · exact frozen_of_row _ _ _ _ _ hb
theorem size_setCells (b : Nat) : ∀ (vs : List Value) (o : Nat) (w : World), (w.setCells b o vs).heap.size = w.heap.size
  | [], _, _ => rfl
  | v :: r, o, w => by show ((w.setCell ⟨b, o, none⟩ v).setCells b (o + 1) r).heap.size = _; rw [size_setCells b r (o + 1)]; simp [World.setCell]
theorem below_setCells {B : Nat} {a : World} (b : Nat) (hb : B ≤ b) : ∀ (vs : List Value) (o : Nat) (w : World), Below B a w → Below B a (w.setCells b o vs)
  | [], _, _, h => h
  | v :: r, o, w, h => below_setCells b hb r (o + 1) (w.setCell ⟨b, o, none⟩ v) (h.setCell hb v)

set_option maxHeartbeats 1000000 in
theorem plan_check (c : Cf) (hok : c.Ok) (w : World) :
    Calls Tryz.prog 227 #[.agg c.vals] w fun e w' => e = .returned (.tuple #[.int .i64 0, .int .i64 0]) ∧ Below w.heap.size w w' := by
  have HO := Go.Lib.hid hok.nth
  have HL := Go.Lib.hid (plan_list c)
  have HI := Go.Lib.hid (index_cf c)
  clear hok
  unfold Cf.vals at HL ⊢
  go_enter Tryz.func227, Tryz.ntmps227
  have hth : ((w.alloc (.cells #[.int .i64 c.workers, .int .i64 c.levels, .int .i64 c.bits, .int .i64 c.nodes, .int .i64 c.tickets, .int .i64 c.slack, .int .i64 c.first, .int .i64 c.conns, .int .i64 c.timeout, .int .i64 c.base, .int .i64 c.cap, .int .i64 c.jitter, .int .i64 c.attempts] 126)).alloc (.cells #[.int .i64 0, .int .i64 0, .int .i64 0, .int .i64 0, .int .i64 0, .int .i64 0, .int .i64 0, .int .i64 0, .int .i64 0, .int .i64 0, .int .i64 0, .int .i64 0, .int .i64 0, .int .i64 0, .int .i64 0, .int .i64 0, .int .i64 0, .int .i64 0, .int .i64 0, .int .i64 0, .int .i64 0, .int .i64 0, .int .i64 0, .int .i64 0, .int .i64 0, .int .i64 0] 243)).there (w.heap.size + 1) 0 26 := by
    have h := there_alloc_new (w.alloc (.cells #[.int .i64 c.workers, .int .i64 c.levels, .int .i64 c.bits, .int .i64 c.nodes, .int .i64 c.tickets, .int .i64 c.slack, .int .i64 c.first, .int .i64 c.conns, .int .i64 c.timeout, .int .i64 c.base, .int .i64 c.cap, .int .i64 c.jitter, .int .i64 c.attempts] 126)) #[.int .i64 0, .int .i64 0, .int .i64 0, .int .i64 0, .int .i64 0, .int .i64 0, .int .i64 0, .int .i64 0, .int .i64 0, .int .i64 0, .int .i64 0, .int .i64 0, .int .i64 0, .int .i64 0, .int .i64 0, .int .i64 0, .int .i64 0, .int .i64 0, .int .i64 0, .int .i64 0, .int .i64 0, .int .i64 0, .int .i64 0, .int .i64 0, .int .i64 0, .int .i64 0] 243 26 rfl
    simpa using h
  have HTH := Go.Lib.hid hth
  clear hth
  go_wp2_with (first
    | (refine wpList_value (o := ⟨some 20, _, _, _, _, _⟩) rfl (.agg spanVals.toArray) (by kernel_rfl) ?_)
    | (refine wpList_store_mid (op := ⟨none, .store 243 _ _, _, _, _, _⟩) rfl 243 (.tmp 4) (.tmp 20) rfl (w.heap.size + 1) 0 spanVals.toArray rfl rfl HTH.out (by kernel_rfl) (by kernel_rfl) ?_; refine Hid.out ?_))
  have hbW : Below w.heap.size w (((w.alloc (.cells #[.int .i64 c.workers, .int .i64 c.levels, .int .i64 c.bits, .int .i64 c.nodes, .int .i64 c.tickets, .int .i64 c.slack, .int .i64 c.first, .int .i64 c.conns, .int .i64 c.timeout, .int .i64 c.base, .int .i64 c.cap, .int .i64 c.jitter, .int .i64 c.attempts] 126)).alloc (.cells #[.int .i64 0, .int .i64 0, .int .i64 0, .int .i64 0, .int .i64 0, .int .i64 0, .int .i64 0, .int .i64 0, .int .i64 0, .int .i64 0, .int .i64 0, .int .i64 0, .int .i64 0, .int .i64 0, .int .i64 0, .int .i64 0, .int .i64 0, .int .i64 0, .int .i64 0, .int .i64 0, .int .i64 0, .int .i64 0, .int .i64 0, .int .i64 0, .int .i64 0, .int .i64 0] 243)).setCells (w.heap.size + 1) 0 spanVals) := below_setCells _ (by omega) _ _ _ (((Below.refl _ w).alloc (Nat.le_refl _) _).alloc (by simp) _)
  have hr : (((w.alloc (.cells #[.int .i64 c.workers, .int .i64 c.levels, .int .i64 c.bits, .int .i64 c.nodes, .int .i64 c.tickets, .int .i64 c.slack, .int .i64 c.first, .int .i64 c.conns, .int .i64 c.timeout, .int .i64 c.base, .int .i64 c.cap, .int .i64 c.jitter, .int .i64 c.attempts] 126)).alloc (.cells #[.int .i64 0, .int .i64 0, .int .i64 0, .int .i64 0, .int .i64 0, .int .i64 0, .int .i64 0, .int .i64 0, .int .i64 0, .int .i64 0, .int .i64 0, .int .i64 0, .int .i64 0, .int .i64 0, .int .i64 0, .int .i64 0, .int .i64 0, .int .i64 0, .int .i64 0, .int .i64 0, .int .i64 0, .int .i64 0, .int .i64 0, .int .i64 0, .int .i64 0, .int .i64 0] 243)).setCells (w.heap.size + 1) 0 spanVals).rangeAt (w.heap.size + 1) 0 spanVals := World.rangeAt_setCells_same _ _ _ _ HTH.out
  have hsz : (((w.alloc (.cells #[.int .i64 c.workers, .int .i64 c.levels, .int .i64 c.bits, .int .i64 c.nodes, .int .i64 c.tickets, .int .i64 c.slack, .int .i64 c.first, .int .i64 c.conns, .int .i64 c.timeout, .int .i64 c.base, .int .i64 c.cap, .int .i64 c.jitter, .int .i64 c.attempts] 126)).alloc (.cells #[.int .i64 0, .int .i64 0, .int .i64 0, .int .i64 0, .int .i64 0, .int .i64 0, .int .i64 0, .int .i64 0, .int .i64 0, .int .i64 0, .int .i64 0, .int .i64 0, .int .i64 0, .int .i64 0, .int .i64 0, .int .i64 0, .int .i64 0, .int .i64 0, .int .i64 0, .int .i64 0, .int .i64 0, .int .i64 0, .int .i64 0, .int .i64 0, .int .i64 0, .int .i64 0] 243)).setCells (w.heap.size + 1) 0 spanVals).heap.size = w.heap.size + 1 + 1 := by rw [size_setCells]; simp
  have hcv : ∀ o, (((w.alloc (.cells #[.int .i64 c.workers, .int .i64 c.levels, .int .i64 c.bits, .int .i64 c.nodes, .int .i64 c.tickets, .int .i64 c.slack, .int .i64 c.first, .int .i64 c.conns, .int .i64 c.timeout, .int .i64 c.base, .int .i64 c.cap, .int .i64 c.jitter, .int .i64 c.attempts] 126)).alloc (.cells #[.int .i64 0, .int .i64 0, .int .i64 0, .int .i64 0, .int .i64 0, .int .i64 0, .int .i64 0, .int .i64 0, .int .i64 0, .int .i64 0, .int .i64 0, .int .i64 0, .int .i64 0, .int .i64 0, .int .i64 0, .int .i64 0, .int .i64 0, .int .i64 0, .int .i64 0, .int .i64 0, .int .i64 0, .int .i64 0, .int .i64 0, .int .i64 0, .int .i64 0, .int .i64 0] 243)).setCells (w.heap.size + 1) 0 spanVals).cell? ⟨w.heap.size, o, none⟩ = ((w.alloc (.cells #[.int .i64 c.workers, .int .i64 c.levels, .int .i64 c.bits, .int .i64 c.nodes, .int .i64 c.tickets, .int .i64 c.slack, .int .i64 c.first, .int .i64 c.conns, .int .i64 c.timeout, .int .i64 c.base, .int .i64 c.cap, .int .i64 c.jitter, .int .i64 c.attempts] 126)).alloc (.cells #[.int .i64 0, .int .i64 0, .int .i64 0, .int .i64 0, .int .i64 0, .int .i64 0, .int .i64 0, .int .i64 0, .int .i64 0, .int .i64 0, .int .i64 0, .int .i64 0, .int .i64 0, .int .i64 0, .int .i64 0, .int .i64 0, .int .i64 0, .int .i64 0, .int .i64 0, .int .i64 0, .int .i64 0, .int .i64 0, .int .i64 0, .int .i64 0, .int .i64 0, .int .i64 0] 243)).cell? ⟨w.heap.size, o, none⟩ := fun o => World.cell?_setCells_out _ _ _ _ _ (by intro h; simp at h)
  have q0 : (((w.alloc (.cells #[.int .i64 c.workers, .int .i64 c.levels, .int .i64 c.bits, .int .i64 c.nodes, .int .i64 c.tickets, .int .i64 c.slack, .int .i64 c.first, .int .i64 c.conns, .int .i64 c.timeout, .int .i64 c.base, .int .i64 c.cap, .int .i64 c.jitter, .int .i64 c.attempts] 126)).alloc (.cells #[.int .i64 0, .int .i64 0, .int .i64 0, .int .i64 0, .int .i64 0, .int .i64 0, .int .i64 0, .int .i64 0, .int .i64 0, .int .i64 0, .int .i64 0, .int .i64 0, .int .i64 0, .int .i64 0, .int .i64 0, .int .i64 0, .int .i64 0, .int .i64 0, .int .i64 0, .int .i64 0, .int .i64 0, .int .i64 0, .int .i64 0, .int .i64 0, .int .i64 0, .int .i64 0] 243)).setCells (w.heap.size + 1) 0 spanVals).cell? ⟨w.heap.size, 0, none⟩ = some (.int .i64 c.workers) := by rw [hcv]; go_simp
  have q1 : (((w.alloc (.cells #[.int .i64 c.workers, .int .i64 c.levels, .int .i64 c.bits, .int .i64 c.nodes, .int .i64 c.tickets, .int .i64 c.slack, .int .i64 c.first, .int .i64 c.conns, .int .i64 c.timeout, .int .i64 c.base, .int .i64 c.cap, .int .i64 c.jitter, .int .i64 c.attempts] 126)).alloc (.cells #[.int .i64 0, .int .i64 0, .int .i64 0, .int .i64 0, .int .i64 0, .int .i64 0, .int .i64 0, .int .i64 0, .int .i64 0, .int .i64 0, .int .i64 0, .int .i64 0, .int .i64 0, .int .i64 0, .int .i64 0, .int .i64 0, .int .i64 0, .int .i64 0, .int .i64 0, .int .i64 0, .int .i64 0, .int .i64 0, .int .i64 0, .int .i64 0, .int .i64 0, .int .i64 0] 243)).setCells (w.heap.size + 1) 0 spanVals).cell? ⟨w.heap.size, 1, none⟩ = some (.int .i64 c.levels) := by rw [hcv]; go_simp
  have q2 : (((w.alloc (.cells #[.int .i64 c.workers, .int .i64 c.levels, .int .i64 c.bits, .int .i64 c.nodes, .int .i64 c.tickets, .int .i64 c.slack, .int .i64 c.first, .int .i64 c.conns, .int .i64 c.timeout, .int .i64 c.base, .int .i64 c.cap, .int .i64 c.jitter, .int .i64 c.attempts] 126)).alloc (.cells #[.int .i64 0, .int .i64 0, .int .i64 0, .int .i64 0, .int .i64 0, .int .i64 0, .int .i64 0, .int .i64 0, .int .i64 0, .int .i64 0, .int .i64 0, .int .i64 0, .int .i64 0, .int .i64 0, .int .i64 0, .int .i64 0, .int .i64 0, .int .i64 0, .int .i64 0, .int .i64 0, .int .i64 0, .int .i64 0, .int .i64 0, .int .i64 0, .int .i64 0, .int .i64 0] 243)).setCells (w.heap.size + 1) 0 spanVals).cell? ⟨w.heap.size, 2, none⟩ = some (.int .i64 c.bits) := by rw [hcv]; go_simp
  have q3 : (((w.alloc (.cells #[.int .i64 c.workers, .int .i64 c.levels, .int .i64 c.bits, .int .i64 c.nodes, .int .i64 c.tickets, .int .i64 c.slack, .int .i64 c.first, .int .i64 c.conns, .int .i64 c.timeout, .int .i64 c.base, .int .i64 c.cap, .int .i64 c.jitter, .int .i64 c.attempts] 126)).alloc (.cells #[.int .i64 0, .int .i64 0, .int .i64 0, .int .i64 0, .int .i64 0, .int .i64 0, .int .i64 0, .int .i64 0, .int .i64 0, .int .i64 0, .int .i64 0, .int .i64 0, .int .i64 0, .int .i64 0, .int .i64 0, .int .i64 0, .int .i64 0, .int .i64 0, .int .i64 0, .int .i64 0, .int .i64 0, .int .i64 0, .int .i64 0, .int .i64 0, .int .i64 0, .int .i64 0] 243)).setCells (w.heap.size + 1) 0 spanVals).cell? ⟨w.heap.size, 3, none⟩ = some (.int .i64 c.nodes) := by rw [hcv]; go_simp
  have q4 : (((w.alloc (.cells #[.int .i64 c.workers, .int .i64 c.levels, .int .i64 c.bits, .int .i64 c.nodes, .int .i64 c.tickets, .int .i64 c.slack, .int .i64 c.first, .int .i64 c.conns, .int .i64 c.timeout, .int .i64 c.base, .int .i64 c.cap, .int .i64 c.jitter, .int .i64 c.attempts] 126)).alloc (.cells #[.int .i64 0, .int .i64 0, .int .i64 0, .int .i64 0, .int .i64 0, .int .i64 0, .int .i64 0, .int .i64 0, .int .i64 0, .int .i64 0, .int .i64 0, .int .i64 0, .int .i64 0, .int .i64 0, .int .i64 0, .int .i64 0, .int .i64 0, .int .i64 0, .int .i64 0, .int .i64 0, .int .i64 0, .int .i64 0, .int .i64 0, .int .i64 0, .int .i64 0, .int .i64 0] 243)).setCells (w.heap.size + 1) 0 spanVals).cell? ⟨w.heap.size, 4, none⟩ = some (.int .i64 c.tickets) := by rw [hcv]; go_simp
  have q5 : (((w.alloc (.cells #[.int .i64 c.workers, .int .i64 c.levels, .int .i64 c.bits, .int .i64 c.nodes, .int .i64 c.tickets, .int .i64 c.slack, .int .i64 c.first, .int .i64 c.conns, .int .i64 c.timeout, .int .i64 c.base, .int .i64 c.cap, .int .i64 c.jitter, .int .i64 c.attempts] 126)).alloc (.cells #[.int .i64 0, .int .i64 0, .int .i64 0, .int .i64 0, .int .i64 0, .int .i64 0, .int .i64 0, .int .i64 0, .int .i64 0, .int .i64 0, .int .i64 0, .int .i64 0, .int .i64 0, .int .i64 0, .int .i64 0, .int .i64 0, .int .i64 0, .int .i64 0, .int .i64 0, .int .i64 0, .int .i64 0, .int .i64 0, .int .i64 0, .int .i64 0, .int .i64 0, .int .i64 0] 243)).setCells (w.heap.size + 1) 0 spanVals).cell? ⟨w.heap.size, 5, none⟩ = some (.int .i64 c.slack) := by rw [hcv]; go_simp
  have q6 : (((w.alloc (.cells #[.int .i64 c.workers, .int .i64 c.levels, .int .i64 c.bits, .int .i64 c.nodes, .int .i64 c.tickets, .int .i64 c.slack, .int .i64 c.first, .int .i64 c.conns, .int .i64 c.timeout, .int .i64 c.base, .int .i64 c.cap, .int .i64 c.jitter, .int .i64 c.attempts] 126)).alloc (.cells #[.int .i64 0, .int .i64 0, .int .i64 0, .int .i64 0, .int .i64 0, .int .i64 0, .int .i64 0, .int .i64 0, .int .i64 0, .int .i64 0, .int .i64 0, .int .i64 0, .int .i64 0, .int .i64 0, .int .i64 0, .int .i64 0, .int .i64 0, .int .i64 0, .int .i64 0, .int .i64 0, .int .i64 0, .int .i64 0, .int .i64 0, .int .i64 0, .int .i64 0, .int .i64 0] 243)).setCells (w.heap.size + 1) 0 spanVals).cell? ⟨w.heap.size, 6, none⟩ = some (.int .i64 c.first) := by rw [hcv]; go_simp
  have q7 : (((w.alloc (.cells #[.int .i64 c.workers, .int .i64 c.levels, .int .i64 c.bits, .int .i64 c.nodes, .int .i64 c.tickets, .int .i64 c.slack, .int .i64 c.first, .int .i64 c.conns, .int .i64 c.timeout, .int .i64 c.base, .int .i64 c.cap, .int .i64 c.jitter, .int .i64 c.attempts] 126)).alloc (.cells #[.int .i64 0, .int .i64 0, .int .i64 0, .int .i64 0, .int .i64 0, .int .i64 0, .int .i64 0, .int .i64 0, .int .i64 0, .int .i64 0, .int .i64 0, .int .i64 0, .int .i64 0, .int .i64 0, .int .i64 0, .int .i64 0, .int .i64 0, .int .i64 0, .int .i64 0, .int .i64 0, .int .i64 0, .int .i64 0, .int .i64 0, .int .i64 0, .int .i64 0, .int .i64 0] 243)).setCells (w.heap.size + 1) 0 spanVals).cell? ⟨w.heap.size, 7, none⟩ = some (.int .i64 c.conns) := by rw [hcv]; go_simp
  have q8 : (((w.alloc (.cells #[.int .i64 c.workers, .int .i64 c.levels, .int .i64 c.bits, .int .i64 c.nodes, .int .i64 c.tickets, .int .i64 c.slack, .int .i64 c.first, .int .i64 c.conns, .int .i64 c.timeout, .int .i64 c.base, .int .i64 c.cap, .int .i64 c.jitter, .int .i64 c.attempts] 126)).alloc (.cells #[.int .i64 0, .int .i64 0, .int .i64 0, .int .i64 0, .int .i64 0, .int .i64 0, .int .i64 0, .int .i64 0, .int .i64 0, .int .i64 0, .int .i64 0, .int .i64 0, .int .i64 0, .int .i64 0, .int .i64 0, .int .i64 0, .int .i64 0, .int .i64 0, .int .i64 0, .int .i64 0, .int .i64 0, .int .i64 0, .int .i64 0, .int .i64 0, .int .i64 0, .int .i64 0] 243)).setCells (w.heap.size + 1) 0 spanVals).cell? ⟨w.heap.size, 8, none⟩ = some (.int .i64 c.timeout) := by rw [hcv]; go_simp
  have q9 : (((w.alloc (.cells #[.int .i64 c.workers, .int .i64 c.levels, .int .i64 c.bits, .int .i64 c.nodes, .int .i64 c.tickets, .int .i64 c.slack, .int .i64 c.first, .int .i64 c.conns, .int .i64 c.timeout, .int .i64 c.base, .int .i64 c.cap, .int .i64 c.jitter, .int .i64 c.attempts] 126)).alloc (.cells #[.int .i64 0, .int .i64 0, .int .i64 0, .int .i64 0, .int .i64 0, .int .i64 0, .int .i64 0, .int .i64 0, .int .i64 0, .int .i64 0, .int .i64 0, .int .i64 0, .int .i64 0, .int .i64 0, .int .i64 0, .int .i64 0, .int .i64 0, .int .i64 0, .int .i64 0, .int .i64 0, .int .i64 0, .int .i64 0, .int .i64 0, .int .i64 0, .int .i64 0, .int .i64 0] 243)).setCells (w.heap.size + 1) 0 spanVals).cell? ⟨w.heap.size, 9, none⟩ = some (.int .i64 c.base) := by rw [hcv]; go_simp
  have q10 : (((w.alloc (.cells #[.int .i64 c.workers, .int .i64 c.levels, .int .i64 c.bits, .int .i64 c.nodes, .int .i64 c.tickets, .int .i64 c.slack, .int .i64 c.first, .int .i64 c.conns, .int .i64 c.timeout, .int .i64 c.base, .int .i64 c.cap, .int .i64 c.jitter, .int .i64 c.attempts] 126)).alloc (.cells #[.int .i64 0, .int .i64 0, .int .i64 0, .int .i64 0, .int .i64 0, .int .i64 0, .int .i64 0, .int .i64 0, .int .i64 0, .int .i64 0, .int .i64 0, .int .i64 0, .int .i64 0, .int .i64 0, .int .i64 0, .int .i64 0, .int .i64 0, .int .i64 0, .int .i64 0, .int .i64 0, .int .i64 0, .int .i64 0, .int .i64 0, .int .i64 0, .int .i64 0, .int .i64 0] 243)).setCells (w.heap.size + 1) 0 spanVals).cell? ⟨w.heap.size, 10, none⟩ = some (.int .i64 c.cap) := by rw [hcv]; go_simp
  have q11 : (((w.alloc (.cells #[.int .i64 c.workers, .int .i64 c.levels, .int .i64 c.bits, .int .i64 c.nodes, .int .i64 c.tickets, .int .i64 c.slack, .int .i64 c.first, .int .i64 c.conns, .int .i64 c.timeout, .int .i64 c.base, .int .i64 c.cap, .int .i64 c.jitter, .int .i64 c.attempts] 126)).alloc (.cells #[.int .i64 0, .int .i64 0, .int .i64 0, .int .i64 0, .int .i64 0, .int .i64 0, .int .i64 0, .int .i64 0, .int .i64 0, .int .i64 0, .int .i64 0, .int .i64 0, .int .i64 0, .int .i64 0, .int .i64 0, .int .i64 0, .int .i64 0, .int .i64 0, .int .i64 0, .int .i64 0, .int .i64 0, .int .i64 0, .int .i64 0, .int .i64 0, .int .i64 0, .int .i64 0] 243)).setCells (w.heap.size + 1) 0 spanVals).cell? ⟨w.heap.size, 11, none⟩ = some (.int .i64 c.jitter) := by rw [hcv]; go_simp
  have q12 : (((w.alloc (.cells #[.int .i64 c.workers, .int .i64 c.levels, .int .i64 c.bits, .int .i64 c.nodes, .int .i64 c.tickets, .int .i64 c.slack, .int .i64 c.first, .int .i64 c.conns, .int .i64 c.timeout, .int .i64 c.base, .int .i64 c.cap, .int .i64 c.jitter, .int .i64 c.attempts] 126)).alloc (.cells #[.int .i64 0, .int .i64 0, .int .i64 0, .int .i64 0, .int .i64 0, .int .i64 0, .int .i64 0, .int .i64 0, .int .i64 0, .int .i64 0, .int .i64 0, .int .i64 0, .int .i64 0, .int .i64 0, .int .i64 0, .int .i64 0, .int .i64 0, .int .i64 0, .int .i64 0, .int .i64 0, .int .i64 0, .int .i64 0, .int .i64 0, .int .i64 0, .int .i64 0, .int .i64 0] 243)).setCells (w.heap.size + 1) 0 spanVals).cell? ⟨w.heap.size, 12, none⟩ = some (.int .i64 c.attempts) := by rw [hcv]; go_simp
  generalize hW : World.setCells ((w.alloc (.cells #[.int .i64 c.workers, .int .i64 c.levels, .int .i64 c.bits, .int .i64 c.nodes, .int .i64 c.tickets, .int .i64 c.slack, .int .i64 c.first, .int .i64 c.conns, .int .i64 c.timeout, .int .i64 c.base, .int .i64 c.cap, .int .i64 c.jitter, .int .i64 c.attempts] 126)).alloc (.cells #[.int .i64 0, .int .i64 0, .int .i64 0, .int .i64 0, .int .i64 0, .int .i64 0, .int .i64 0, .int .i64 0, .int .i64 0, .int .i64 0, .int .i64 0, .int .i64 0, .int .i64 0, .int .i64 0, .int .i64 0, .int .i64 0, .int .i64 0, .int .i64 0, .int .i64 0, .int .i64 0, .int .i64 0, .int .i64 0, .int .i64 0, .int .i64 0, .int .i64 0, .int .i64 0] 243)) (w.heap.size + 1) 0 spanVals = W at hbW hr hsz hcv q0 q1 q2 q3 q4 q5 q6 q7 q8 q9 q10 q11 q12 ⊢
  clear hW hcv HTH
  unfold Hid
  go_wp2_with fail
  refine (HL.out _).mono ?_
  rintro e w1 ⟨rfl, hb⟩
  have HLO : Hid (∀ k, k < 13 → w1.cell? ⟨w.heap.size + 1, k * 2, none⟩ = some (.int .i64 (loOf k : Nat))) := fun k hk => below_cell hb (by have := hr (k * 2) _ (spanVals_lo k hk); rwa [Nat.zero_add] at this)
  have HHI : Hid (∀ k, k < 13 → w1.cell? ⟨w.heap.size + 1, k * 2 + 1, none⟩ = some (.int .i64 (hiOf k : Nat))) := fun k hk => below_cell hb (by have := hr (k * 2 + 1) _ (spanVals_hi k hk); rwa [Nat.zero_add] at this)
  have HB := Go.Lib.hid (hbW.trans (hb.mono (by omega)))
  clear hb hbW hr hsz q0 q1 q2 q3 q4 q5 q6 q7 q8 q9 q10 q11 q12
  go_wp2
  go_loop [23] (fun i => ∃ k : Nat, k ≤ 13 ∧ i = .int .i64 k) (fun i => 13 - (intOf i).toNat)
  case atStart => exact ⟨0, by omega, rfl⟩
  case round =>
    obtain ⟨k, hk, rfl⟩ := hrel
    by_cases hlt : k < 13
    · have e1 := HLO.out k hlt
      have e2 := HHI.out k hlt
      have e3 := HI.out w1 k hlt
      obtain ⟨b1, b2⟩ := HO.out k hlt
      generalize c.nth k = x at *
      generalize loOf k = lo at *
      generalize hiOf k = hi at *
      go_wp2
      refine ⟨⟨k + 1, by omega, by go_num⟩, by simp [intOf]; omega⟩
    · go_wp2
      go_ret2
      exact ⟨rfl, HB.out⟩
end Go.Proofs.YtgemjjpmoejgdaaGreat
