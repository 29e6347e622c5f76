/- A handle's cell; whether it is armed; arms of quiet calls. -/
import Derived.Test.YtgemjjpmoejgdaaGreatHqq
namespace Go.Proofs.YtgemjjpmoejgdaaGreat
open Go.RowKit
set_option maxRecDepth 100000
set_option linter.unusedVariables false

def isE : Arg → Prop | .e x => 0 ≤ x ∧ x ≤ 100 | _ => False
theorem word_StateW (gen time status : Int) (w : World) (h0 : gen < 9223372036854775808) (h1 : time < 9223372036854775808) (h2 : status < 9223372036854775808) :
    Calls Tryz.prog 165 #[.agg #[.int .i64 gen, .int .i64 time, .int .i64 status]] w fun e w' => ∃ e2 : Int, e = .returned (.tuple #[.int .u64 (stateWord gen time status : Nat), .int .i64 e2]) ∧ Below w.heap.size w w' :=
  (word_State gen time status w h0 h1 h2).mono fun _ _ h => ⟨_, h⟩
theorem part_hi_lt (x : Nat) : part x 32 32 < 4294967296 := by have h := part_lt x 32 32; simpa using h
theorem part_mid_lt (x : Nat) : part x 2 30 < 1073741824 := by have h := part_lt x 2 30; simpa using h
theorem Bd.of_some {S : St} {ρ : Type} {o : Option (K ρ)} (h : Bd ((S, o) : St × Option (K ρ)).1) : Bd S := h
section
variable {E : G}
theorem arm_home {L : Lab} {w : World} {S : St} (hg : Good E L S w) (n : Int) : ∀ W, Below w.heap.size w W → Calls Tryz.prog 48 #[.pointer (some ⟨E.p, 0, none⟩), .int .i64 n] W fun e w' => e = .returned (.int .i64 (E.cf.home n)) ∧ Below W.heap.size W w' :=
  fun W hW => (plan_Home hg.ok E.p n W (hg.below hW).pl).mono fun _ _ h => h.below
end
set_option maxHeartbeats 1000000 in
theorem chg_armed (x : Nat) (n g : Int) (w : World) (hx : x < 18446744073709551616) :
    Calls Tryz.prog 164 #[.int .u64 x, .agg #[.int .i64 n, .int .i64 g]] w fun e w' => e = .returned (.bool (armedW x g)) ∧ Below w.heap.size w w' := by
  have HSO := Go.Lib.hid (fun w => of_StateOf x w hx)
  unfold armedW
  generalize part x 32 32 = gn at *
  generalize part x 2 30 = tm at *
  generalize part x 0 2 = sm at *
  have hb0 : Below w.heap.size w (w.alloc (.cells #[.int .i64 n, .int .i64 g] 46)) := (Below.refl _ _).alloc (Nat.le_refl _) _
  have e1 : (w.alloc (.cells #[.int .i64 n, .int .i64 g] 46)).cell? ⟨w.heap.size, 1, none⟩ = some (.int .i64 g) := by go_simp
  have HD : Hid (decide (sm = 1 ∧ (gn : Int) = g) = if sm = 1 then decide ((gn : Int) = g) else false) := by
    refine Go.Lib.hid ?_
    by_cases h : sm = 1
    · rw [if_pos h]; exact decide_eq_decide.2 ⟨fun q => q.2, fun q => ⟨h, q⟩⟩
    · rw [if_neg h]; exact decide_eq_false fun q => h q.1
  rw [HD.out]
  by_cases hs : sm = 1
  · have d1 : ((sm : Int) == 1) = true := by simp; omega
    rw [if_pos hs]
    subst hs
    go_enter Tryz.func164, Tryz.ntmps164
    go_wp2_with fail
    generalize (w.alloc (.cells #[.int .i64 n, .int .i64 g] 46)) = W at *
    refine (HSO.out _).mono ?_
    rintro e w1 ⟨rfl, hb⟩
    have q1 := below_cell hb e1
    have hb1 : Below w1.heap.size w1 (w1.alloc (.cells #[.int .i64 gn, .int .i64 tm, .int .i64 1] 105)) := (Below.refl _ _).alloc (Nat.le_refl _) _
    have q2 := below_cell hb1 q1
    have hb2 := hb.trans (hb1.mono hb.size)
    have HB := Go.Lib.hid (hb0.trans (hb2.mono hb0.size))
    clear hb hb0 hb1 hb2 e1 HD HSO
    go_wp2
    go_ret
    exact ⟨by first | rfl | simp, HB.out⟩
  · have d1 : ((sm : Int) == 1) = false := by simp; omega
    rw [if_neg hs]
    have hsn : ((sm : Int) = 1) = False := by simp; omega
    have hsn2 : (sm = 1) = False := by simp; exact hs
    clear hs
    go_enter Tryz.func164, Tryz.ntmps164
    go_wp2_with fail
    generalize (w.alloc (.cells #[.int .i64 n, .int .i64 g] 46)) = W at *
    refine (HSO.out _).mono ?_
    rintro e w1 ⟨rfl, hb⟩
    have q1 := below_cell hb e1
    have hb1 : Below w1.heap.size w1 (w1.alloc (.cells #[.int .i64 gn, .int .i64 tm, .int .i64 sm] 105)) := (Below.refl _ _).alloc (Nat.le_refl _) _
    have hb2 := hb.trans (hb1.mono hb.size)
    have HB := Go.Lib.hid (hb0.trans (hb2.mono hb0.size))
    clear hb hb0 hb1 hb2 e1 HD HSO
    go_wp2
    go_ret
    exact ⟨by first | rfl | simp, HB.out⟩
set_option maxHeartbeats 1000000 in
theorem chg_at {E : G} {L : Lab} {S : St} {w : World} (hg : Good E L S w) (n g : Int) :
    Calls Tryz.prog 161 #[.pointer (some ⟨E.k, 0, none⟩), .agg #[.int .i64 n, .int .i64 g]] w fun e w' => e = .returned (.int .i64 (E.cf.state n)) ∧ Below w.heap.size w w' := by
  have henv := Env.nil L w
  have HD := Go.Lib.hid (Did.refl 0 L w)
  have HG := Go.Lib.hid hg
  have HE := Go.Lib.hid henv
  clear hg henv
  have hb0 : Below w.heap.size w (w.alloc (.cells #[.int .i64 n, .int .i64 g] 46)) := ((Below.refl _ _).alloc (Nat.le_refl _) _)
  have HE0 : Hid (Env L (w.alloc (.cells #[.int .i64 n, .int .i64 g] 46)) [(w.heap.size, [.int .i64 n, .int .i64 g])]) := Go.Lib.hid (Env.alloc_at HE.out (fun b hb => HG.out.new b (by first | exact hb | (simp at hb; omega))) [.int .i64 n, .int .i64 g] 46 (b := w.heap.size) (by first | rfl | (simp; done) | (simp; omega)))
  replace HG := Go.Lib.hid (HG.out.below hb0)
  replace HE := Go.Lib.hid (HE0.out)
  replace HD := Go.Lib.hid (HD.out.trans (below_did hb0 0 L))
  have HBL := Go.Lib.hid hb0
  clear hb0 HE0
  have q0_0 : (w.alloc (.cells #[.int .i64 n, .int .i64 g] 46)).cell? ⟨w.heap.size, 0, none⟩ = some (.int .i64 n) := HE.out.cell 0 0 rfl rfl
  have q0_1 : (w.alloc (.cells #[.int .i64 n, .int .i64 g] 46)).cell? ⟨w.heap.size, 1, none⟩ = some (.int .i64 g) := HE.out.cell 0 1 rfl rfl
  go_enter Tryz.func161, Tryz.ntmps161
  go_wp2
  generalize (w.alloc (.cells #[.int .i64 n, .int .i64 g] 46)) = w0 at *
  have HPL := Go.Lib.hid (arm_plan HG.out)
  have q0_0' : ∀ d os, (Sort.grow (redrawn w0 d) os).cell? ⟨w.heap.size, 0, none⟩ = some (.int .i64 n) := fun d os => cell_regrown q0_0 d os
  have q0_1' : ∀ d os, (Sort.grow (redrawn w0 d) os).cell? ⟨w.heap.size, 1, none⟩ = some (.int .i64 g) := fun d os => cell_regrown q0_1 d os
  refine wp_region_below_tail 4 (by kernel_rfl) (by kernel_rfl) ?_
  simp only [List.take_succ_cons, List.take_zero, List.drop_succ_cons, List.drop_zero]
  repeat (go_big_quiet_step (first
    | (go_at_call 47; rename_i p; exact Calls.regrown_of (HPL.out _ (below_regrown w0 p.d p.os)))))
  refine wpQuiet_nil ?_
  intro w1 hw'
  obtain ⟨p, rfl⟩ := hw'
  have hb := below_regrown w0 p.d p.os
  clear q0_0' q0_1' q0_0 q0_1
  generalize Sort.grow (redrawn w0 p.d) p.os = w1 at *
  replace HG := Go.Lib.hid (HG.out.below hb)
  replace HE := Go.Lib.hid (HE.out.ext (below_ext hb 0 L))
  replace HD := Go.Lib.hid (HD.out.trans (below_did hb 0 L))
  replace HBL := Go.Lib.hid (HBL.out.trans (hb.mono HBL.out.size))
  clear hb
  have q0_0 : w1.cell? ⟨w.heap.size, 0, none⟩ = some (.int .i64 n) := HE.out.cell 0 0 rfl rfl
  have q0_1 : w1.cell? ⟨w.heap.size, 1, none⟩ = some (.int .i64 g) := HE.out.cell 0 1 rfl rfl
  have HSA := Go.Lib.hid (plan_State HG.out.ok E.p n _ HG.out.pl)
  go_wp2_with fail
  refine HSA.out.mono ?_
  intro e w9 hqt
  obtain ⟨rfl, hb⟩ := hqt.below
  replace HBL := Go.Lib.hid (HBL.out.trans (hb.mono HBL.out.size))
  clear hqt
  go_wp2
  go_ret
  exact ⟨rfl, HBL.out⟩
theorem arm_at {E : G} {L : Lab} {w : World} {S : St} (hg : Good E L S w) (n g : Int) : ∀ W, Below w.heap.size w W → Calls Tryz.prog 161 #[.pointer (some ⟨E.k, 0, none⟩), .agg #[.int .i64 n, .int .i64 g]] W fun e w' => e = .returned (.int .i64 (E.cf.state n)) ∧ Below W.heap.size W w' :=
  fun W hW => chg_at (hg.below hW) n g
end Go.Proofs.YtgemjjpmoejgdaaGreat
