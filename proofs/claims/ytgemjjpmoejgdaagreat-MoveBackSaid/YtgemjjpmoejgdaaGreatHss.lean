/- Migrate, as code: what is behind the first step. -/
import Derived.Test.YtgemjjpmoejgdaaGreatHsr
namespace Go.Proofs.YtgemjjpmoejgdaaGreat
open Go.RowKit
set_option maxRecDepth 100000
set_option linter.unusedVariables false

section
variable {ρ : Type} {R0 : ρ → Arg → St → St × Option (K (PR ρ))} {E : G} {t : Nat}
theorem homeWord_lt (g v s : Int) : homeWord g v s < 18446744073709551616 := packed_lt [32, 16, 16] [g, v, s] (by decide) rfl
theorem word_HomeW (gen version shard : Int) (w : World) (h0 : gen < 9223372036854775808) (h1 : version < 9223372036854775808) (h2 : shard < 9223372036854775808) :
    Calls Tryz.prog 267 #[.agg #[.int .i64 gen, .int .i64 version, .int .i64 shard]] w fun e w' => e = .returned (.tuple #[.int .u64 (homeWord gen version shard : Nat), .int .i64 (packed [32, 16, 16] [gen, version, shard]).2]) ∧ Below w.heap.size w w' :=
  word_Home gen version shard w h0 h1 h2
set_option maxHeartbeats 2000000 in
theorem mg8_call (hR : RMono (prApp E.cf R0)) {m : Nat} {wk n g s : Int} {vk : Value} {k : PR ρ} {L : Lab} {w : World} {S : St} {jb : Nat} {bj : Nat} {ok : Bool} (hg : Good E L S w) (henv : Env L w [(bj, [.pointer (some ⟨jb, 0, none⟩)]), (jb, [.pointer (some ⟨E.k, 0, none⟩), .int .i64 wk, .int .i64 s, .int .i64 n, .int .i64 g, vk])]) (hk : ConSim E.cf (prApp E.cf R0) E t isE m L w vk (.ret k)) (hbd : Bd (prApp E.cf R0 k (.e 0) S).1) :
    Calls Tryz.prog 268 #[.bool ok, .pointer (some ⟨bj, 0, none⟩)] w (Post E.cf (prApp E.cf R0) E t m L w (prApp E.cf R0 k (.e 0) S)) := by
  have HD := Go.Lib.hid (Did.refl t L w)
  have HG := Go.Lib.hid hg
  have HE := Go.Lib.hid henv
  obtain ⟨ghk, chk, hvhk, hgfhk, _⟩ := id hk
  subst hvhk
  have henhk : ∀ (args : Array Value) (w : World), (callFunc ghk args).run Tryz.prog w = .ok (.enter ghk args) w := hgfhk
  have Hhk := Go.Lib.hid hk
  clear hg henv hk hgfhk
  have q0_0 : w.cell? ⟨bj, 0, none⟩ = some (.pointer (some ⟨jb, 0, none⟩)) := HE.out.cell 0 0 rfl rfl
  have q1_0 : w.cell? ⟨jb, 0, none⟩ = some (.pointer (some ⟨E.k, 0, none⟩)) := HE.out.cell 1 0 rfl rfl
  have q1_1 : w.cell? ⟨jb, 1, none⟩ = some (.int .i64 wk) := HE.out.cell 1 1 rfl rfl
  have q1_2 : w.cell? ⟨jb, 2, none⟩ = some (.int .i64 s) := HE.out.cell 1 2 rfl rfl
  have q1_3 : w.cell? ⟨jb, 3, none⟩ = some (.int .i64 n) := HE.out.cell 1 3 rfl rfl
  have q1_4 : w.cell? ⟨jb, 4, none⟩ = some (.int .i64 g) := HE.out.cell 1 4 rfl rfl
  have q1_5 : w.cell? ⟨jb, 5, none⟩ = some (.func (.func ghk) #[] chk) := HE.out.cell 1 5 rfl rfl
  go_enter Tryz.func268, Tryz.ntmps268
  go_wp2_with fail
  have HC : Hid (Calls Tryz.prog ghk ((Arg.vals (.e 0)) ++ chk) w (Post E.cf (prApp E.cf R0) E t m L w (prApp E.cf R0 k (.e 0) (S)))) := Go.Lib.hid (Hhk.out.call (a := .e 0) ⟨by decide, by decide⟩ HG.out hbd)
  clear hbd
  generalize prApp E.cf R0 k (.e 0) (S) = rr at *
  go_wp2_with (go_at_fn ghk; refine (HC.out).mono ?_; rintro e w9 ⟨v2, L9, rfl, hd2, hg2, hc2⟩)
  go_ret
  exact ⟨v2, L9, rfl, HD.out.trans hd2, hg2, hc2⟩
theorem mg8_con (hR : RMono (prApp E.cf R0)) {m : Nat} {wk n g s : Int} {vk : Value} {k : PR ρ} {L : Lab} {w : World} {jb : Nat} {bj : Nat} (henv : Env L w [(bj, [.pointer (some ⟨jb, 0, none⟩)]), (jb, [.pointer (some ⟨E.k, 0, none⟩), .int .i64 wk, .int .i64 s, .int .i64 n, .int .i64 g, vk])]) (hk : ConSim E.cf (prApp E.cf R0) E t isE m L w vk (.ret k))  :
    ConSim E.cf (prApp E.cf R0) E t isB m L w (.func (.func 268) #[] #[.pointer (some ⟨bj, 0, none⟩)]) (.ret (.mg8 k)) := by
  refine ⟨_, _, rfl, enters_of Tryz.func268 (by kernel_rfl) rfl, ?_⟩
  intro a L' w' S ha hx hg hbd
  cases a with
  | b ok =>
    show Calls _ _ #[_, _] _ _
    exact mg8_call hR hg (henv.ext hx) (ConSim.ext E.cf (prApp E.cf R0) E t hk hx) hbd
  | _ => exact absurd ha (by simp [isB])
set_option maxHeartbeats 2000000 in
theorem mg5_call (hR : RMono (prApp E.cf R0)) {m : Nat} {wk n g s : Int} {vk : Value} {k : PR ρ} {L : Lab} {w : World} {S : St} {jb : Nat} {bj : Nat} (hg : Good E L S w) (henv : Env L w [(bj, [.pointer (some ⟨jb, 0, none⟩)]), (jb, [.pointer (some ⟨E.k, 0, none⟩), .int .i64 wk, .int .i64 s, .int .i64 n, .int .i64 g, vk])]) (hk : ConSim E.cf (prApp E.cf R0) E t isE m L w vk (.ret k)) (hbd : Bd (prApp E.cf R0 k (.e 4) S).1) :
    Calls Tryz.prog 249 #[.pointer (some ⟨bj, 0, none⟩)] w (Post E.cf (prApp E.cf R0) E t m L w (prApp E.cf R0 k (.e 4) S)) := by
  have HD := Go.Lib.hid (Did.refl t L w)
  have HG := Go.Lib.hid hg
  have HE := Go.Lib.hid henv
  obtain ⟨ghk, chk, hvhk, hgfhk, _⟩ := id hk
  subst hvhk
  have henhk : ∀ (args : Array Value) (w : World), (callFunc ghk args).run Tryz.prog w = .ok (.enter ghk args) w := hgfhk
  have Hhk := Go.Lib.hid hk
  clear hg henv hk hgfhk
  have q0_0 : w.cell? ⟨bj, 0, none⟩ = some (.pointer (some ⟨jb, 0, none⟩)) := HE.out.cell 0 0 rfl rfl
  have q1_0 : w.cell? ⟨jb, 0, none⟩ = some (.pointer (some ⟨E.k, 0, none⟩)) := HE.out.cell 1 0 rfl rfl
  have q1_1 : w.cell? ⟨jb, 1, none⟩ = some (.int .i64 wk) := HE.out.cell 1 1 rfl rfl
  have q1_2 : w.cell? ⟨jb, 2, none⟩ = some (.int .i64 s) := HE.out.cell 1 2 rfl rfl
  have q1_3 : w.cell? ⟨jb, 3, none⟩ = some (.int .i64 n) := HE.out.cell 1 3 rfl rfl
  have q1_4 : w.cell? ⟨jb, 4, none⟩ = some (.int .i64 g) := HE.out.cell 1 4 rfl rfl
  have q1_5 : w.cell? ⟨jb, 5, none⟩ = some (.func (.func ghk) #[] chk) := HE.out.cell 1 5 rfl rfl
  go_enter Tryz.func249, Tryz.ntmps249
  go_wp2_with fail
  have HC : Hid (Calls Tryz.prog ghk ((Arg.vals (.e 4)) ++ chk) w (Post E.cf (prApp E.cf R0) E t m L w (prApp E.cf R0 k (.e 4) (S)))) := Go.Lib.hid (Hhk.out.call (a := .e 4) ⟨by decide, by decide⟩ HG.out hbd)
  clear hbd
  generalize prApp E.cf R0 k (.e 4) (S) = rr at *
  go_wp2_with (go_at_fn ghk; refine (HC.out).mono ?_; rintro e w9 ⟨v2, L9, rfl, hd2, hg2, hc2⟩)
  go_ret
  exact ⟨v2, L9, rfl, HD.out.trans hd2, hg2, hc2⟩
theorem mg5_con (hR : RMono (prApp E.cf R0)) {m : Nat} {wk n g s : Int} {vk : Value} {k : PR ρ} {L : Lab} {w : World} {jb : Nat} {bj : Nat} (henv : Env L w [(bj, [.pointer (some ⟨jb, 0, none⟩)]), (jb, [.pointer (some ⟨E.k, 0, none⟩), .int .i64 wk, .int .i64 s, .int .i64 n, .int .i64 g, vk])]) (hk : ConSim E.cf (prApp E.cf R0) E t isE m L w vk (.ret k))  :
    ConSim E.cf (prApp E.cf R0) E t isU m L w (.func (.func 249) #[] #[.pointer (some ⟨bj, 0, none⟩)]) (.ret (.mg5 k)) := by
  refine ⟨_, _, rfl, enters_of Tryz.func249 (by kernel_rfl) rfl, ?_⟩
  intro a L' w' S ha hx hg hbd
  cases a with
  | u =>
    show Calls _ _ #[_] _ _
    exact mg5_call hR hg (henv.ext hx) (ConSim.ext E.cf (prApp E.cf R0) E t hk hx) hbd
  | _ => exact absurd ha (by simp [isU])
set_option maxHeartbeats 4000000 in
theorem mg_turn (hR : RMono (prApp E.cf R0)) {m : Nat} {wk n g s : Int} {vk : Value} {k : PR ρ} {L : Lab} {w : World} {S : St} {jb : Nat} {x : Nat} {v : Int} (hg : Good E L S w) (henv : Env L w [(jb, [.pointer (some ⟨E.k, 0, none⟩), .int .i64 wk, .int .i64 s, .int .i64 n, .int .i64 g, vk])]) (hk : ConSim E.cf (prApp E.cf R0) E t isE m L w vk (.ret k)) (hgb : 0 ≤ g ∧ g ≤ 4294967295) (hvb : 0 ≤ v ∧ v ≤ 65535) (hsb : 0 ≤ s ∧ s ≤ 4294967294) :
    Calls Tryz.prog 252 #[.pointer (some ⟨jb, 0, none⟩), .int .u64 x, .int .i64 v] w (Post E.cf (prApp E.cf R0) E t m L w ((S, some (.cas (E.cf.home n) x (homeWord g v s) (.ret (.mg8 k)))))) := by
  have HD := Go.Lib.hid (Did.refl t L w)
  have HG := Go.Lib.hid hg
  have HE := Go.Lib.hid henv
  obtain ⟨ghk, chk, hvhk, hgfhk, _⟩ := id hk
  subst hvhk
  have henhk : ∀ (args : Array Value) (w : World), (callFunc ghk args).run Tryz.prog w = .ok (.enter ghk args) w := hgfhk
  have Hhk := Go.Lib.hid hk
  clear hg henv hk hgfhk
  have HHW : Hid (∀ W, Calls Tryz.prog 267 #[.agg #[.int .i64 g, .int .i64 v, .int .i64 s]] W fun e w' => e = .returned (.tuple #[.int .u64 (homeWord g v s : Nat), .int .i64 (packed [32, 16, 16] [g, v, s]).2]) ∧ Below W.heap.size W w') := Go.Lib.hid (fun W => word_HomeW g v s W (by omega) (by omega) (by omega))
  generalize (packed [32, 16, 16] [g, v, s]).2 = e2 at *
  have HSL := Go.Lib.hid (homeWord_lt g v s)
  generalize homeWord g v s = sw at *
  have hb0 : Below w.heap.size w (w.alloc (.cells #[.pointer (some ⟨jb, 0, none⟩)] 176)) := ((Below.refl _ _).alloc (Nat.le_refl _) _)
  have HE0 : Hid (Env L (w.alloc (.cells #[.pointer (some ⟨jb, 0, none⟩)] 176)) [(w.heap.size, [.pointer (some ⟨jb, 0, none⟩)]), (jb, [.pointer (some ⟨E.k, 0, none⟩), .int .i64 wk, .int .i64 s, .int .i64 n, .int .i64 g, .func (.func ghk) #[] chk])]) := Go.Lib.hid (Env.alloc_at HE.out (fun b hb => HG.out.new b (by first | exact hb | (simp at hb; omega))) [.pointer (some ⟨jb, 0, none⟩)] 176 (b := w.heap.size) (by first | rfl | (simp; done) | (simp; omega)))
  replace HG := Go.Lib.hid (HG.out.below hb0)
  replace HE := Go.Lib.hid (HE0.out)
  replace Hhk := Go.Lib.hid (ConSim.ext E.cf (prApp E.cf R0) E t Hhk.out (below_ext hb0 t L))
  replace HD := Go.Lib.hid (HD.out.trans (below_did hb0 t L))
  clear hb0 HE0
  have q0_0 : (w.alloc (.cells #[.pointer (some ⟨jb, 0, none⟩)] 176)).cell? ⟨w.heap.size, 0, none⟩ = some (.pointer (some ⟨jb, 0, none⟩)) := HE.out.cell 0 0 rfl rfl
  have q1_0 : (w.alloc (.cells #[.pointer (some ⟨jb, 0, none⟩)] 176)).cell? ⟨jb, 0, none⟩ = some (.pointer (some ⟨E.k, 0, none⟩)) := HE.out.cell 1 0 rfl rfl
  have q1_1 : (w.alloc (.cells #[.pointer (some ⟨jb, 0, none⟩)] 176)).cell? ⟨jb, 1, none⟩ = some (.int .i64 wk) := HE.out.cell 1 1 rfl rfl
  have q1_2 : (w.alloc (.cells #[.pointer (some ⟨jb, 0, none⟩)] 176)).cell? ⟨jb, 2, none⟩ = some (.int .i64 s) := HE.out.cell 1 2 rfl rfl
  have q1_3 : (w.alloc (.cells #[.pointer (some ⟨jb, 0, none⟩)] 176)).cell? ⟨jb, 3, none⟩ = some (.int .i64 n) := HE.out.cell 1 3 rfl rfl
  have q1_4 : (w.alloc (.cells #[.pointer (some ⟨jb, 0, none⟩)] 176)).cell? ⟨jb, 4, none⟩ = some (.int .i64 g) := HE.out.cell 1 4 rfl rfl
  have q1_5 : (w.alloc (.cells #[.pointer (some ⟨jb, 0, none⟩)] 176)).cell? ⟨jb, 5, none⟩ = some (.func (.func ghk) #[] chk) := HE.out.cell 1 5 rfl rfl
  go_enter Tryz.func252, Tryz.ntmps252
  go_wp2
  generalize (w.alloc (.cells #[.pointer (some ⟨jb, 0, none⟩)] 176)) = w0 at *
  have q0_0' : ∀ d os, (Sort.grow (redrawn w0 d) os).cell? ⟨w.heap.size, 0, none⟩ = some (.pointer (some ⟨jb, 0, none⟩)) := fun d os => cell_regrown q0_0 d os
  have q1_0' : ∀ d os, (Sort.grow (redrawn w0 d) os).cell? ⟨jb, 0, none⟩ = some (.pointer (some ⟨E.k, 0, none⟩)) := fun d os => cell_regrown q1_0 d os
  have q1_1' : ∀ d os, (Sort.grow (redrawn w0 d) os).cell? ⟨jb, 1, none⟩ = some (.int .i64 wk) := fun d os => cell_regrown q1_1 d os
  have q1_2' : ∀ d os, (Sort.grow (redrawn w0 d) os).cell? ⟨jb, 2, none⟩ = some (.int .i64 s) := fun d os => cell_regrown q1_2 d os
  have q1_3' : ∀ d os, (Sort.grow (redrawn w0 d) os).cell? ⟨jb, 3, none⟩ = some (.int .i64 n) := fun d os => cell_regrown q1_3 d os
  have q1_4' : ∀ d os, (Sort.grow (redrawn w0 d) os).cell? ⟨jb, 4, none⟩ = some (.int .i64 g) := fun d os => cell_regrown q1_4 d os
  have q1_5' : ∀ d os, (Sort.grow (redrawn w0 d) os).cell? ⟨jb, 5, none⟩ = some (.func (.func ghk) #[] chk) := fun d os => cell_regrown q1_5 d os
  refine wp_region_quiet_below (by kernel_rfl) (by kernel_rfl) ?_
  repeat (go_big_quiet_step (first
    | (go_at_call 267; rename_i p; exact Calls.regrown_of ((fun W (_ : Below w0.heap.size w0 W) => HHW.out W) _ (below_regrown w0 p.d p.os)))))
  refine wpQuiet_nil ?_
  intro w1 hw'
  obtain ⟨p, rfl⟩ := hw'
  have hb := below_regrown w0 p.d p.os
  clear q0_0' q1_0' q1_1' q1_2' q1_3' q1_4' q1_5' q0_0 q1_0 q1_1 q1_2 q1_3 q1_4 q1_5
  generalize Sort.grow (redrawn w0 p.d) p.os = w1 at *
  replace HG := Go.Lib.hid (HG.out.below hb)
  replace HE := Go.Lib.hid (HE.out.ext (below_ext hb t L))
  replace Hhk := Go.Lib.hid (ConSim.ext E.cf (prApp E.cf R0) E t Hhk.out (below_ext hb t L))
  replace HD := Go.Lib.hid (HD.out.trans (below_did hb t L))
  clear hb
  have q0_0 : w1.cell? ⟨w.heap.size, 0, none⟩ = some (.pointer (some ⟨jb, 0, none⟩)) := HE.out.cell 0 0 rfl rfl
  have q1_0 : w1.cell? ⟨jb, 0, none⟩ = some (.pointer (some ⟨E.k, 0, none⟩)) := HE.out.cell 1 0 rfl rfl
  have q1_1 : w1.cell? ⟨jb, 1, none⟩ = some (.int .i64 wk) := HE.out.cell 1 1 rfl rfl
  have q1_2 : w1.cell? ⟨jb, 2, none⟩ = some (.int .i64 s) := HE.out.cell 1 2 rfl rfl
  have q1_3 : w1.cell? ⟨jb, 3, none⟩ = some (.int .i64 n) := HE.out.cell 1 3 rfl rfl
  have q1_4 : w1.cell? ⟨jb, 4, none⟩ = some (.int .i64 g) := HE.out.cell 1 4 rfl rfl
  have q1_5 : w1.cell? ⟨jb, 5, none⟩ = some (.func (.func ghk) #[] chk) := HE.out.cell 1 5 rfl rfl
  have HCE := Go.Lib.hid (arm_cells HG.out)
  have HPL := Go.Lib.hid (arm_plan HG.out)
  have HHM := Go.Lib.hid (arm_home HG.out n)
  go_wp2
  have q0_0' : ∀ d os, (Sort.grow (redrawn w1 d) os).cell? ⟨w.heap.size, 0, none⟩ = some (.pointer (some ⟨jb, 0, none⟩)) := fun d os => cell_regrown q0_0 d os
  have q1_0' : ∀ d os, (Sort.grow (redrawn w1 d) os).cell? ⟨jb, 0, none⟩ = some (.pointer (some ⟨E.k, 0, none⟩)) := fun d os => cell_regrown q1_0 d os
  have q1_1' : ∀ d os, (Sort.grow (redrawn w1 d) os).cell? ⟨jb, 1, none⟩ = some (.int .i64 wk) := fun d os => cell_regrown q1_1 d os
  have q1_2' : ∀ d os, (Sort.grow (redrawn w1 d) os).cell? ⟨jb, 2, none⟩ = some (.int .i64 s) := fun d os => cell_regrown q1_2 d os
  have q1_3' : ∀ d os, (Sort.grow (redrawn w1 d) os).cell? ⟨jb, 3, none⟩ = some (.int .i64 n) := fun d os => cell_regrown q1_3 d os
  have q1_4' : ∀ d os, (Sort.grow (redrawn w1 d) os).cell? ⟨jb, 4, none⟩ = some (.int .i64 g) := fun d os => cell_regrown q1_4 d os
  have q1_5' : ∀ d os, (Sort.grow (redrawn w1 d) os).cell? ⟨jb, 5, none⟩ = some (.func (.func ghk) #[] chk) := fun d os => cell_regrown q1_5 d os
  refine wp_region_below_tail 19 (by kernel_rfl) (by kernel_rfl) ?_
  simp only [List.take_succ_cons, List.take_zero, List.drop_succ_cons, List.drop_zero]
  repeat (go_big_quiet_step (first
    | (go_at_call 44; rename_i p; exact Calls.regrown_of (HCE.out _ (below_regrown w1 p.d p.os)))
    | (go_at_call 47; rename_i p; exact Calls.regrown_of (HPL.out _ (below_regrown w1 p.d p.os)))
    | (go_at_call 48; rename_i p; exact Calls.regrown_of (HHM.out _ (below_regrown w1 p.d p.os)))))
  refine wpQuiet_nil ?_
  intro w2 hw'
  obtain ⟨p, rfl⟩ := hw'
  have hb := below_regrown w1 p.d p.os
  clear q0_0' q1_0' q1_1' q1_2' q1_3' q1_4' q1_5' q0_0 q1_0 q1_1 q1_2 q1_3 q1_4 q1_5
  generalize Sort.grow (redrawn w1 p.d) p.os = w2 at *
  replace HG := Go.Lib.hid (HG.out.below hb)
  replace HE := Go.Lib.hid (HE.out.ext (below_ext hb t L))
  replace Hhk := Go.Lib.hid (ConSim.ext E.cf (prApp E.cf R0) E t Hhk.out (below_ext hb t L))
  replace HD := Go.Lib.hid (HD.out.trans (below_did hb t L))
  clear hb
  have q0_0 : w2.cell? ⟨w.heap.size, 0, none⟩ = some (.pointer (some ⟨jb, 0, none⟩)) := HE.out.cell 0 0 rfl rfl
  have q1_0 : w2.cell? ⟨jb, 0, none⟩ = some (.pointer (some ⟨E.k, 0, none⟩)) := HE.out.cell 1 0 rfl rfl
  have q1_1 : w2.cell? ⟨jb, 1, none⟩ = some (.int .i64 wk) := HE.out.cell 1 1 rfl rfl
  have q1_2 : w2.cell? ⟨jb, 2, none⟩ = some (.int .i64 s) := HE.out.cell 1 2 rfl rfl
  have q1_3 : w2.cell? ⟨jb, 3, none⟩ = some (.int .i64 n) := HE.out.cell 1 3 rfl rfl
  have q1_4 : w2.cell? ⟨jb, 4, none⟩ = some (.int .i64 g) := HE.out.cell 1 4 rfl rfl
  have q1_5 : w2.cell? ⟨jb, 5, none⟩ = some (.func (.func ghk) #[] chk) := HE.out.cell 1 5 rfl rfl
  have HT := Go.Lib.hid (cas_at hR (i := E.cf.home n) (old := x) HSL.out HG.out (mg8_con (k := k) (bj := w.heap.size) hR (HE.out.sub (env' := [(w.heap.size, [.pointer (some ⟨jb, 0, none⟩)]), (jb, [.pointer (some ⟨E.k, 0, none⟩), .int .i64 wk, .int .i64 s, .int .i64 n, .int .i64 g, .func (.func ghk) #[] chk])]) (by simp)) Hhk.out))
  go_wp2_with fail
  refine (HT.out).mono ?_
  rintro e w9 ⟨v2, L9, rfl, hd2, hg2, hc2⟩
  go_wp2
  go_ret
  exact ⟨v2, L9, rfl, HD.out.trans hd2, hg2, hc2⟩
set_option maxHeartbeats 2000000 in
theorem mg7_call (hR : RMono (prApp E.cf R0)) {m : Nat} {wk n g s : Int} {vk : Value} {k : PR ρ} {L : Lab} {w : World} {S : St} {jb : Nat} {bj bx bv x : Nat} {v : Int} (hg : Good E L S w) (henv : Env L w [(bj, [.pointer (some ⟨jb, 0, none⟩)]), (bx, [.int .u64 x]), (bv, [.int .i64 v]), (jb, [.pointer (some ⟨E.k, 0, none⟩), .int .i64 wk, .int .i64 s, .int .i64 n, .int .i64 g, vk])]) (hk : ConSim E.cf (prApp E.cf R0) E t isE m L w vk (.ret k)) (hgb : 0 ≤ g ∧ g ≤ 4294967295) (hvb : 0 ≤ v ∧ v ≤ 65535) (hsb : 0 ≤ s ∧ s ≤ 4294967294) :
    Calls Tryz.prog 251 #[.pointer (some ⟨bj, 0, none⟩), .pointer (some ⟨bx, 0, none⟩), .pointer (some ⟨bv, 0, none⟩)] w (Post E.cf (prApp E.cf R0) E t m L w ((S, some (.cas (E.cf.home n) x (homeWord g v s) (.ret (.mg8 k)))))) := by
  have HD := Go.Lib.hid (Did.refl t L w)
  have HG := Go.Lib.hid hg
  have HE := Go.Lib.hid henv
  obtain ⟨ghk, chk, hvhk, hgfhk, _⟩ := id hk
  subst hvhk
  have henhk : ∀ (args : Array Value) (w : World), (callFunc ghk args).run Tryz.prog w = .ok (.enter ghk args) w := hgfhk
  have Hhk := Go.Lib.hid hk
  clear hg henv hk hgfhk
  have q0_0 : w.cell? ⟨bj, 0, none⟩ = some (.pointer (some ⟨jb, 0, none⟩)) := HE.out.cell 0 0 rfl rfl
  have q1_0 : w.cell? ⟨bx, 0, none⟩ = some (.int .u64 x) := HE.out.cell 1 0 rfl rfl
  have q2_0 : w.cell? ⟨bv, 0, none⟩ = some (.int .i64 v) := HE.out.cell 2 0 rfl rfl
  have q3_0 : w.cell? ⟨jb, 0, none⟩ = some (.pointer (some ⟨E.k, 0, none⟩)) := HE.out.cell 3 0 rfl rfl
  have q3_1 : w.cell? ⟨jb, 1, none⟩ = some (.int .i64 wk) := HE.out.cell 3 1 rfl rfl
  have q3_2 : w.cell? ⟨jb, 2, none⟩ = some (.int .i64 s) := HE.out.cell 3 2 rfl rfl
  have q3_3 : w.cell? ⟨jb, 3, none⟩ = some (.int .i64 n) := HE.out.cell 3 3 rfl rfl
  have q3_4 : w.cell? ⟨jb, 4, none⟩ = some (.int .i64 g) := HE.out.cell 3 4 rfl rfl
  have q3_5 : w.cell? ⟨jb, 5, none⟩ = some (.func (.func ghk) #[] chk) := HE.out.cell 3 5 rfl rfl
  go_enter Tryz.func251, Tryz.ntmps251
  go_wp2_with fail
  refine (mg_turn (x := x) (v := v) hR HG.out (HE.out.sub (env' := [(jb, [.pointer (some ⟨E.k, 0, none⟩), .int .i64 wk, .int .i64 s, .int .i64 n, .int .i64 g, .func (.func ghk) #[] chk])]) (by simp)) Hhk.out hgb hvb hsb).mono ?_
  rintro e w9 ⟨v2, L9, rfl, hd2, hg2, hc2⟩
  go_wp2
  go_ret
  exact ⟨v2, L9, rfl, HD.out.trans hd2, hg2, hc2⟩
theorem mg7_con (hR : RMono (prApp E.cf R0)) {m : Nat} {wk n g s : Int} {vk : Value} {k : PR ρ} {L : Lab} {w : World} {jb : Nat} {bj bx bv x : Nat} {v : Int} (henv : Env L w [(bj, [.pointer (some ⟨jb, 0, none⟩)]), (bx, [.int .u64 x]), (bv, [.int .i64 v]), (jb, [.pointer (some ⟨E.k, 0, none⟩), .int .i64 wk, .int .i64 s, .int .i64 n, .int .i64 g, vk])]) (hk : ConSim E.cf (prApp E.cf R0) E t isE m L w vk (.ret k)) (hgb : 0 ≤ g ∧ g ≤ 4294967295) (hvb : 0 ≤ v ∧ v ≤ 65535) (hsb : 0 ≤ s ∧ s ≤ 4294967294) :
    ConSim E.cf (prApp E.cf R0) E t isU m L w (.func (.func 251) #[] #[.pointer (some ⟨bj, 0, none⟩), .pointer (some ⟨bx, 0, none⟩), .pointer (some ⟨bv, 0, none⟩)]) (.ret (.mg7 n g s x v k)) := by
  refine ⟨_, _, rfl, enters_of Tryz.func251 (by kernel_rfl) rfl, ?_⟩
  intro a L' w' S ha hx hg hbd
  cases a with
  | u =>
    show Calls _ _ #[_, _, _] _ _
    exact mg7_call hR hg (henv.ext hx) (ConSim.ext E.cf (prApp E.cf R0) E t hk hx) hgb hvb hsb
  | _ => exact absurd ha (by simp [isU])
set_option maxHeartbeats 2000000 in
theorem mg6_call (hR : RMono (prApp E.cf R0)) {m : Nat} {wk n g s v tk : Int} {vk vt : Value} {k : PR ρ} {L : Lab} {w : World} {S : St} {jb x : Nat} {bj bt bth : Nat} (hg : Good E L S w) (henv : Env L w [(bj, [.pointer (some ⟨jb, 0, none⟩)]), (bt, [.int .i64 tk]), (bth, [vt]), (jb, [.pointer (some ⟨E.k, 0, none⟩), .int .i64 wk, .int .i64 s, .int .i64 n, .int .i64 g, vk])]) (hk : ConSim E.cf (prApp E.cf R0) E t isU m L w vt (.ret (.mg7 n g s x v k)))  :
    Calls Tryz.prog 266 #[.pointer (some ⟨bj, 0, none⟩), .pointer (some ⟨bt, 0, none⟩), .pointer (some ⟨bth, 0, none⟩)] w (Post E.cf (prApp E.cf R0) E t m L w ((S, some (putK E.cf s tk (.mg7 n g s x v k))))) := by
  have HD := Go.Lib.hid (Did.refl t L w)
  have HG := Go.Lib.hid hg
  have HE := Go.Lib.hid henv
  obtain ⟨ghk, chk, hvhk, hgfhk, _⟩ := id hk
  subst hvhk
  have henhk : ∀ (args : Array Value) (w : World), (callFunc ghk args).run Tryz.prog w = .ok (.enter ghk args) w := hgfhk
  have Hhk := Go.Lib.hid hk
  clear hg henv hk hgfhk
  have HBX := Go.Lib.hid (arm_box HG.out s)
  have q0_0 : w.cell? ⟨bj, 0, none⟩ = some (.pointer (some ⟨jb, 0, none⟩)) := HE.out.cell 0 0 rfl rfl
  have q1_0 : w.cell? ⟨bt, 0, none⟩ = some (.int .i64 tk) := HE.out.cell 1 0 rfl rfl
  have q2_0 : w.cell? ⟨bth, 0, none⟩ = some (.func (.func ghk) #[] chk) := HE.out.cell 2 0 rfl rfl
  have q3_0 : w.cell? ⟨jb, 0, none⟩ = some (.pointer (some ⟨E.k, 0, none⟩)) := HE.out.cell 3 0 rfl rfl
  have q3_1 : w.cell? ⟨jb, 1, none⟩ = some (.int .i64 wk) := HE.out.cell 3 1 rfl rfl
  have q3_2 : w.cell? ⟨jb, 2, none⟩ = some (.int .i64 s) := HE.out.cell 3 2 rfl rfl
  have q3_3 : w.cell? ⟨jb, 3, none⟩ = some (.int .i64 n) := HE.out.cell 3 3 rfl rfl
  have q3_4 : w.cell? ⟨jb, 4, none⟩ = some (.int .i64 g) := HE.out.cell 3 4 rfl rfl
  have q3_5 : w.cell? ⟨jb, 5, none⟩ = some (vk) := HE.out.cell 3 5 rfl rfl
  go_enter Tryz.func266, Tryz.ntmps266
  go_wp2
  have q0_0' : ∀ d os, (Sort.grow (redrawn w d) os).cell? ⟨bj, 0, none⟩ = some (.pointer (some ⟨jb, 0, none⟩)) := fun d os => cell_regrown q0_0 d os
  have q1_0' : ∀ d os, (Sort.grow (redrawn w d) os).cell? ⟨bt, 0, none⟩ = some (.int .i64 tk) := fun d os => cell_regrown q1_0 d os
  have q2_0' : ∀ d os, (Sort.grow (redrawn w d) os).cell? ⟨bth, 0, none⟩ = some (.func (.func ghk) #[] chk) := fun d os => cell_regrown q2_0 d os
  have q3_0' : ∀ d os, (Sort.grow (redrawn w d) os).cell? ⟨jb, 0, none⟩ = some (.pointer (some ⟨E.k, 0, none⟩)) := fun d os => cell_regrown q3_0 d os
  have q3_1' : ∀ d os, (Sort.grow (redrawn w d) os).cell? ⟨jb, 1, none⟩ = some (.int .i64 wk) := fun d os => cell_regrown q3_1 d os
  have q3_2' : ∀ d os, (Sort.grow (redrawn w d) os).cell? ⟨jb, 2, none⟩ = some (.int .i64 s) := fun d os => cell_regrown q3_2 d os
  have q3_3' : ∀ d os, (Sort.grow (redrawn w d) os).cell? ⟨jb, 3, none⟩ = some (.int .i64 n) := fun d os => cell_regrown q3_3 d os
  have q3_4' : ∀ d os, (Sort.grow (redrawn w d) os).cell? ⟨jb, 4, none⟩ = some (.int .i64 g) := fun d os => cell_regrown q3_4 d os
  have q3_5' : ∀ d os, (Sort.grow (redrawn w d) os).cell? ⟨jb, 5, none⟩ = some (vk) := fun d os => cell_regrown q3_5 d os
  refine wp_region_below_tail 11 (by kernel_rfl) (by kernel_rfl) ?_
  simp only [List.take_succ_cons, List.take_zero, List.drop_succ_cons, List.drop_zero]
  repeat (go_big_quiet_step (first
    | (go_at_call 30; rename_i p; exact Calls.regrown_of (HBX.out _ (below_regrown w p.d p.os)))))
  refine wpQuiet_nil ?_
  intro w1 hw'
  obtain ⟨p, rfl⟩ := hw'
  have hb := below_regrown w p.d p.os
  clear q0_0' q1_0' q2_0' q3_0' q3_1' q3_2' q3_3' q3_4' q3_5' q0_0 q1_0 q2_0 q3_0 q3_1 q3_2 q3_3 q3_4 q3_5
  generalize Sort.grow (redrawn w p.d) p.os = w1 at *
  replace HG := Go.Lib.hid (HG.out.below hb)
  replace HE := Go.Lib.hid (HE.out.ext (below_ext hb t L))
  replace Hhk := Go.Lib.hid (ConSim.ext E.cf (prApp E.cf R0) E t Hhk.out (below_ext hb t L))
  replace HD := Go.Lib.hid (HD.out.trans (below_did hb t L))
  clear hb
  have q0_0 : w1.cell? ⟨bj, 0, none⟩ = some (.pointer (some ⟨jb, 0, none⟩)) := HE.out.cell 0 0 rfl rfl
  have q1_0 : w1.cell? ⟨bt, 0, none⟩ = some (.int .i64 tk) := HE.out.cell 1 0 rfl rfl
  have q2_0 : w1.cell? ⟨bth, 0, none⟩ = some (.func (.func ghk) #[] chk) := HE.out.cell 2 0 rfl rfl
  have q3_0 : w1.cell? ⟨jb, 0, none⟩ = some (.pointer (some ⟨E.k, 0, none⟩)) := HE.out.cell 3 0 rfl rfl
  have q3_1 : w1.cell? ⟨jb, 1, none⟩ = some (.int .i64 wk) := HE.out.cell 3 1 rfl rfl
  have q3_2 : w1.cell? ⟨jb, 2, none⟩ = some (.int .i64 s) := HE.out.cell 3 2 rfl rfl
  have q3_3 : w1.cell? ⟨jb, 3, none⟩ = some (.int .i64 n) := HE.out.cell 3 3 rfl rfl
  have q3_4 : w1.cell? ⟨jb, 4, none⟩ = some (.int .i64 g) := HE.out.cell 3 4 rfl rfl
  have q3_5 : w1.cell? ⟨jb, 5, none⟩ = some (vk) := HE.out.cell 3 5 rfl rfl
  have HT := Go.Lib.hid (put_at hR (s := s) (tk := tk) HG.out Hhk.out)
  go_wp2_with fail
  refine (HT.out).mono ?_
  rintro e w9 ⟨v2, L9, rfl, hd2, hg2, hc2⟩
  go_wp2
  go_ret
  exact ⟨v2, L9, rfl, HD.out.trans hd2, hg2, hc2⟩
theorem mg6_con (hR : RMono (prApp E.cf R0)) {m : Nat} {wk n g s v tk : Int} {vk vt : Value} {k : PR ρ} {L : Lab} {w : World} {jb x : Nat} {bj bt bth : Nat} (henv : Env L w [(bj, [.pointer (some ⟨jb, 0, none⟩)]), (bt, [.int .i64 tk]), (bth, [vt]), (jb, [.pointer (some ⟨E.k, 0, none⟩), .int .i64 wk, .int .i64 s, .int .i64 n, .int .i64 g, vk])]) (hk : ConSim E.cf (prApp E.cf R0) E t isU m L w vt (.ret (.mg7 n g s x v k)))  :
    ConSim E.cf (prApp E.cf R0) E t isU m L w (.func (.func 266) #[] #[.pointer (some ⟨bj, 0, none⟩), .pointer (some ⟨bt, 0, none⟩), .pointer (some ⟨bth, 0, none⟩)]) (.ret (.mg6 n g s x v tk k)) := by
  refine ⟨_, _, rfl, enters_of Tryz.func266 (by kernel_rfl) rfl, ?_⟩
  intro a L' w' S ha hx hg hbd
  cases a with
  | u =>
    show Calls _ _ #[_, _, _] _ _
    exact mg6_call hR hg (henv.ext hx) (ConSim.ext E.cf (prApp E.cf R0) E t hk hx) 
  | _ => exact absurd ha (by simp [isU])
set_option maxHeartbeats 4000000 in
theorem mg_lay (hR : RMono (prApp E.cf R0)) {m : Nat} {wk n g s v tk : Int} {vk vt : Value} {k : PR ρ} {L : Lab} {w : World} {S : St} {jb x : Nat} {dl : Int} (hg : Good E L S w) (henv : Env L w [(jb, [.pointer (some ⟨E.k, 0, none⟩), .int .i64 wk, .int .i64 s, .int .i64 n, .int .i64 g, vk])]) (hk : ConSim E.cf (prApp E.cf R0) E t isU m L w vt (.ret (.mg7 n g s x v k))) (hgb : 0 ≤ g ∧ g ≤ 4294967295) (hvb : 0 ≤ v ∧ v ≤ 65535) (hnb : 0 ≤ n ∧ n ≤ 4294967294) :
    Calls Tryz.prog 250 #[.pointer (some ⟨jb, 0, none⟩), .int .i64 tk, .int .i64 v, .int .i64 dl, vt] w (Post E.cf (prApp E.cf R0) E t m L w ((S, some (writeK E.cf tk g v n dl (.ret (.mg6 n g s x v tk k)))))) := by
  have HD := Go.Lib.hid (Did.refl t L w)
  have HG := Go.Lib.hid hg
  have HE := Go.Lib.hid henv
  obtain ⟨ghk, chk, hvhk, hgfhk, _⟩ := id hk
  subst hvhk
  have henhk : ∀ (args : Array Value) (w : World), (callFunc ghk args).run Tryz.prog w = .ok (.enter ghk args) w := hgfhk
  have Hhk := Go.Lib.hid hk
  clear hg henv hk hgfhk
  have hb0 : Below w.heap.size w (((w.alloc (.cells #[.pointer (some ⟨jb, 0, none⟩)] 176)).alloc (.cells #[.int .i64 tk] 3)).alloc (.cells #[.func (.func ghk) #[] chk] 43)) := ((((Below.refl _ _).alloc (Nat.le_refl _) _).alloc (by first | (simp; done) | (simp; omega)) _).alloc (by first | (simp; done) | (simp; omega)) _)
  have HE0 : Hid (Env L (((w.alloc (.cells #[.pointer (some ⟨jb, 0, none⟩)] 176)).alloc (.cells #[.int .i64 tk] 3)).alloc (.cells #[.func (.func ghk) #[] chk] 43)) [(w.heap.size + 1 + 1, [.func (.func ghk) #[] chk]), (w.heap.size + 1, [.int .i64 tk]), (w.heap.size, [.pointer (some ⟨jb, 0, none⟩)]), (jb, [.pointer (some ⟨E.k, 0, none⟩), .int .i64 wk, .int .i64 s, .int .i64 n, .int .i64 g, vk])]) := Go.Lib.hid (Env.alloc_at (Env.alloc_at (Env.alloc_at HE.out (fun b hb => HG.out.new b (by first | exact hb | (simp at hb; omega))) [.pointer (some ⟨jb, 0, none⟩)] 176 (b := w.heap.size) (by first | rfl | (simp; done) | (simp; omega))) (fun b hb => HG.out.new b (by first | exact hb | (simp at hb; omega))) [.int .i64 tk] 3 (b := w.heap.size + 1) (by first | rfl | (simp; done) | (simp; omega))) (fun b hb => HG.out.new b (by first | exact hb | (simp at hb; omega))) [.func (.func ghk) #[] chk] 43 (b := w.heap.size + 1 + 1) (by first | rfl | (simp; done) | (simp; omega)))
  replace HG := Go.Lib.hid (HG.out.below hb0)
  replace HE := Go.Lib.hid (HE0.out)
  replace Hhk := Go.Lib.hid (ConSim.ext E.cf (prApp E.cf R0) E t Hhk.out (below_ext hb0 t L))
  replace HD := Go.Lib.hid (HD.out.trans (below_did hb0 t L))
  clear hb0 HE0
  have q0_0 : (((w.alloc (.cells #[.pointer (some ⟨jb, 0, none⟩)] 176)).alloc (.cells #[.int .i64 tk] 3)).alloc (.cells #[.func (.func ghk) #[] chk] 43)).cell? ⟨w.heap.size + 1 + 1, 0, none⟩ = some (.func (.func ghk) #[] chk) := HE.out.cell 0 0 rfl rfl
  have q1_0 : (((w.alloc (.cells #[.pointer (some ⟨jb, 0, none⟩)] 176)).alloc (.cells #[.int .i64 tk] 3)).alloc (.cells #[.func (.func ghk) #[] chk] 43)).cell? ⟨w.heap.size + 1, 0, none⟩ = some (.int .i64 tk) := HE.out.cell 1 0 rfl rfl
  have q2_0 : (((w.alloc (.cells #[.pointer (some ⟨jb, 0, none⟩)] 176)).alloc (.cells #[.int .i64 tk] 3)).alloc (.cells #[.func (.func ghk) #[] chk] 43)).cell? ⟨w.heap.size, 0, none⟩ = some (.pointer (some ⟨jb, 0, none⟩)) := HE.out.cell 2 0 rfl rfl
  have q3_0 : (((w.alloc (.cells #[.pointer (some ⟨jb, 0, none⟩)] 176)).alloc (.cells #[.int .i64 tk] 3)).alloc (.cells #[.func (.func ghk) #[] chk] 43)).cell? ⟨jb, 0, none⟩ = some (.pointer (some ⟨E.k, 0, none⟩)) := HE.out.cell 3 0 rfl rfl
  have q3_1 : (((w.alloc (.cells #[.pointer (some ⟨jb, 0, none⟩)] 176)).alloc (.cells #[.int .i64 tk] 3)).alloc (.cells #[.func (.func ghk) #[] chk] 43)).cell? ⟨jb, 1, none⟩ = some (.int .i64 wk) := HE.out.cell 3 1 rfl rfl
  have q3_2 : (((w.alloc (.cells #[.pointer (some ⟨jb, 0, none⟩)] 176)).alloc (.cells #[.int .i64 tk] 3)).alloc (.cells #[.func (.func ghk) #[] chk] 43)).cell? ⟨jb, 2, none⟩ = some (.int .i64 s) := HE.out.cell 3 2 rfl rfl
  have q3_3 : (((w.alloc (.cells #[.pointer (some ⟨jb, 0, none⟩)] 176)).alloc (.cells #[.int .i64 tk] 3)).alloc (.cells #[.func (.func ghk) #[] chk] 43)).cell? ⟨jb, 3, none⟩ = some (.int .i64 n) := HE.out.cell 3 3 rfl rfl
  have q3_4 : (((w.alloc (.cells #[.pointer (some ⟨jb, 0, none⟩)] 176)).alloc (.cells #[.int .i64 tk] 3)).alloc (.cells #[.func (.func ghk) #[] chk] 43)).cell? ⟨jb, 4, none⟩ = some (.int .i64 g) := HE.out.cell 3 4 rfl rfl
  have q3_5 : (((w.alloc (.cells #[.pointer (some ⟨jb, 0, none⟩)] 176)).alloc (.cells #[.int .i64 tk] 3)).alloc (.cells #[.func (.func ghk) #[] chk] 43)).cell? ⟨jb, 5, none⟩ = some (vk) := HE.out.cell 3 5 rfl rfl
  go_enter Tryz.func250, Tryz.ntmps250
  go_wp2
  generalize (((w.alloc (.cells #[.pointer (some ⟨jb, 0, none⟩)] 176)).alloc (.cells #[.int .i64 tk] 3)).alloc (.cells #[.func (.func ghk) #[] chk] 43)) = w0 at *
  have hb1 : Below w0.heap.size w0 (w0.alloc (.cells #[.int .i64 g, .int .i64 v, .int .i64 n] 56)) := (Below.refl _ _).alloc (Nat.le_refl _) _
  have hb := hb1.drew
  have HE0 := Go.Lib.hid ((Env.alloc_at HE.out (fun b hb => HG.out.new b hb) [.int .i64 g, .int .i64 v, .int .i64 n] 56 (b := w0.heap.size) rfl).below ((Below.refl _ _).drew))
  have n0_0 := World.new_ne w0 _ q0_0
  have n1_0 := World.new_ne w0 _ q1_0
  have n2_0 := World.new_ne w0 _ q2_0
  have n3_0 := World.new_ne w0 _ q3_0
  have n3_1 := World.new_ne w0 _ q3_1
  have n3_2 := World.new_ne w0 _ q3_2
  have n3_3 := World.new_ne w0 _ q3_3
  have n3_4 := World.new_ne w0 _ q3_4
  have n3_5 := World.new_ne w0 _ q3_5
  go_region_held3 (fun w' => w'.cell? ⟨w.heap.size + 1 + 1, 0, none⟩ = some (.func (.func ghk) #[] chk) ∧ w'.cell? ⟨w.heap.size + 1, 0, none⟩ = some (.int .i64 tk) ∧ w'.cell? ⟨w.heap.size, 0, none⟩ = some (.pointer (some ⟨jb, 0, none⟩)) ∧ w'.cell? ⟨jb, 0, none⟩ = some (.pointer (some ⟨E.k, 0, none⟩)) ∧ w'.cell? ⟨jb, 1, none⟩ = some (.int .i64 wk) ∧ w'.cell? ⟨jb, 2, none⟩ = some (.int .i64 s) ∧ w'.cell? ⟨jb, 3, none⟩ = some (.int .i64 n) ∧ w'.cell? ⟨jb, 4, none⟩ = some (.int .i64 g) ∧ w'.cell? ⟨jb, 5, none⟩ = some (vk))
    (first | exact ⟨q0_0, q1_0, q2_0, q3_0, q3_1, q3_2, q3_3, q3_4, q3_5⟩ | go_keep)
    (fail)
  go_wp2
  clear n0_0 n1_0 n2_0 n3_0 n3_1 n3_2 n3_3 n3_4 n3_5 q0_0 q1_0 q2_0 q3_0 q3_1 q3_2 q3_3 q3_4 q3_5 hb1
  generalize (w0.alloc (.cells #[.int .i64 g, .int .i64 v, .int .i64 n] 56)).drew = w1 at *
  replace HG := Go.Lib.hid (HG.out.below hb)
  replace HE := Go.Lib.hid (HE0.out)
  replace Hhk := Go.Lib.hid (ConSim.ext E.cf (prApp E.cf R0) E t Hhk.out (below_ext hb t L))
  replace HD := Go.Lib.hid (HD.out.trans (below_did hb t L))
  clear hb HE0
  have q0_0 : w1.cell? ⟨w0.heap.size, 0, none⟩ = some (.int .i64 g) := HE.out.cell 0 0 rfl rfl
  have q0_1 : w1.cell? ⟨w0.heap.size, 1, none⟩ = some (.int .i64 v) := HE.out.cell 0 1 rfl rfl
  have q0_2 : w1.cell? ⟨w0.heap.size, 2, none⟩ = some (.int .i64 n) := HE.out.cell 0 2 rfl rfl
  have q1_0 : w1.cell? ⟨w.heap.size + 1 + 1, 0, none⟩ = some (.func (.func ghk) #[] chk) := HE.out.cell 1 0 rfl rfl
  have q2_0 : w1.cell? ⟨w.heap.size + 1, 0, none⟩ = some (.int .i64 tk) := HE.out.cell 2 0 rfl rfl
  have q3_0 : w1.cell? ⟨w.heap.size, 0, none⟩ = some (.pointer (some ⟨jb, 0, none⟩)) := HE.out.cell 3 0 rfl rfl
  have q4_0 : w1.cell? ⟨jb, 0, none⟩ = some (.pointer (some ⟨E.k, 0, none⟩)) := HE.out.cell 4 0 rfl rfl
  have q4_1 : w1.cell? ⟨jb, 1, none⟩ = some (.int .i64 wk) := HE.out.cell 4 1 rfl rfl
  have q4_2 : w1.cell? ⟨jb, 2, none⟩ = some (.int .i64 s) := HE.out.cell 4 2 rfl rfl
  have q4_3 : w1.cell? ⟨jb, 3, none⟩ = some (.int .i64 n) := HE.out.cell 4 3 rfl rfl
  have q4_4 : w1.cell? ⟨jb, 4, none⟩ = some (.int .i64 g) := HE.out.cell 4 4 rfl rfl
  have q4_5 : w1.cell? ⟨jb, 5, none⟩ = some (vk) := HE.out.cell 4 5 rfl rfl
  have q0_0' : ∀ d os, (Sort.grow (redrawn w1 d) os).cell? ⟨w0.heap.size, 0, none⟩ = some (.int .i64 g) := fun d os => cell_regrown q0_0 d os
  have q0_1' : ∀ d os, (Sort.grow (redrawn w1 d) os).cell? ⟨w0.heap.size, 1, none⟩ = some (.int .i64 v) := fun d os => cell_regrown q0_1 d os
  have q0_2' : ∀ d os, (Sort.grow (redrawn w1 d) os).cell? ⟨w0.heap.size, 2, none⟩ = some (.int .i64 n) := fun d os => cell_regrown q0_2 d os
  have q1_0' : ∀ d os, (Sort.grow (redrawn w1 d) os).cell? ⟨w.heap.size + 1 + 1, 0, none⟩ = some (.func (.func ghk) #[] chk) := fun d os => cell_regrown q1_0 d os
  have q2_0' : ∀ d os, (Sort.grow (redrawn w1 d) os).cell? ⟨w.heap.size + 1, 0, none⟩ = some (.int .i64 tk) := fun d os => cell_regrown q2_0 d os
  have q3_0' : ∀ d os, (Sort.grow (redrawn w1 d) os).cell? ⟨w.heap.size, 0, none⟩ = some (.pointer (some ⟨jb, 0, none⟩)) := fun d os => cell_regrown q3_0 d os
  have q4_0' : ∀ d os, (Sort.grow (redrawn w1 d) os).cell? ⟨jb, 0, none⟩ = some (.pointer (some ⟨E.k, 0, none⟩)) := fun d os => cell_regrown q4_0 d os
  have q4_1' : ∀ d os, (Sort.grow (redrawn w1 d) os).cell? ⟨jb, 1, none⟩ = some (.int .i64 wk) := fun d os => cell_regrown q4_1 d os
  have q4_2' : ∀ d os, (Sort.grow (redrawn w1 d) os).cell? ⟨jb, 2, none⟩ = some (.int .i64 s) := fun d os => cell_regrown q4_2 d os
  have q4_3' : ∀ d os, (Sort.grow (redrawn w1 d) os).cell? ⟨jb, 3, none⟩ = some (.int .i64 n) := fun d os => cell_regrown q4_3 d os
  have q4_4' : ∀ d os, (Sort.grow (redrawn w1 d) os).cell? ⟨jb, 4, none⟩ = some (.int .i64 g) := fun d os => cell_regrown q4_4 d os
  have q4_5' : ∀ d os, (Sort.grow (redrawn w1 d) os).cell? ⟨jb, 5, none⟩ = some (vk) := fun d os => cell_regrown q4_5 d os
  refine wp_region_below_tail 8 (by kernel_rfl) (by kernel_rfl) ?_
  simp only [List.take_succ_cons, List.take_zero, List.drop_succ_cons, List.drop_zero]
  repeat (go_big_quiet_step (first
    | fail))
  refine wpQuiet_nil ?_
  intro w2 hw'
  obtain ⟨p, rfl⟩ := hw'
  have hb := below_regrown w1 p.d p.os
  clear q0_0' q0_1' q0_2' q1_0' q2_0' q3_0' q4_0' q4_1' q4_2' q4_3' q4_4' q4_5' q0_0 q0_1 q0_2 q1_0 q2_0 q3_0 q4_0 q4_1 q4_2 q4_3 q4_4 q4_5
  generalize Sort.grow (redrawn w1 p.d) p.os = w2 at *
  replace HG := Go.Lib.hid (HG.out.below hb)
  replace HE := Go.Lib.hid (HE.out.ext (below_ext hb t L))
  replace Hhk := Go.Lib.hid (ConSim.ext E.cf (prApp E.cf R0) E t Hhk.out (below_ext hb t L))
  replace HD := Go.Lib.hid (HD.out.trans (below_did hb t L))
  clear hb
  have q0_0 : w2.cell? ⟨w0.heap.size, 0, none⟩ = some (.int .i64 g) := HE.out.cell 0 0 rfl rfl
  have q0_1 : w2.cell? ⟨w0.heap.size, 1, none⟩ = some (.int .i64 v) := HE.out.cell 0 1 rfl rfl
  have q0_2 : w2.cell? ⟨w0.heap.size, 2, none⟩ = some (.int .i64 n) := HE.out.cell 0 2 rfl rfl
  have q1_0 : w2.cell? ⟨w.heap.size + 1 + 1, 0, none⟩ = some (.func (.func ghk) #[] chk) := HE.out.cell 1 0 rfl rfl
  have q2_0 : w2.cell? ⟨w.heap.size + 1, 0, none⟩ = some (.int .i64 tk) := HE.out.cell 2 0 rfl rfl
  have q3_0 : w2.cell? ⟨w.heap.size, 0, none⟩ = some (.pointer (some ⟨jb, 0, none⟩)) := HE.out.cell 3 0 rfl rfl
  have q4_0 : w2.cell? ⟨jb, 0, none⟩ = some (.pointer (some ⟨E.k, 0, none⟩)) := HE.out.cell 4 0 rfl rfl
  have q4_1 : w2.cell? ⟨jb, 1, none⟩ = some (.int .i64 wk) := HE.out.cell 4 1 rfl rfl
  have q4_2 : w2.cell? ⟨jb, 2, none⟩ = some (.int .i64 s) := HE.out.cell 4 2 rfl rfl
  have q4_3 : w2.cell? ⟨jb, 3, none⟩ = some (.int .i64 n) := HE.out.cell 4 3 rfl rfl
  have q4_4 : w2.cell? ⟨jb, 4, none⟩ = some (.int .i64 g) := HE.out.cell 4 4 rfl rfl
  have q4_5 : w2.cell? ⟨jb, 5, none⟩ = some (vk) := HE.out.cell 4 5 rfl rfl
  have HT := Go.Lib.hid (write_at hR (tt := tk) (g := g) (v := v) (nd := n) (d := dl) HG.out (by omega) (by omega) (by omega) (mg6_con (bj := w.heap.size) (bt := w.heap.size + 1) (bth := w.heap.size + 1 + 1) (jb := jb) (k := k) (vk := vk) hR (HE.out.sub (env' := [(w.heap.size, [.pointer (some ⟨jb, 0, none⟩)]), (w.heap.size + 1, [.int .i64 tk]), (w.heap.size + 1 + 1, [.func (.func ghk) #[] chk]), (jb, [.pointer (some ⟨E.k, 0, none⟩), .int .i64 wk, .int .i64 s, .int .i64 n, .int .i64 g, vk])]) (by simp)) Hhk.out))
  go_wp2_with fail
  refine (HT.out).mono ?_
  rintro e w9 ⟨v2, L9, rfl, hd2, hg2, hc2⟩
  go_wp2
  go_ret
  exact ⟨v2, L9, rfl, HD.out.trans hd2, hg2, hc2⟩
set_option maxHeartbeats 2000000 in
theorem mg4_no (hR : RMono (prApp E.cf R0)) {m : Nat} {wk n g s : Int} {vk : Value} {k : PR ρ} {L : Lab} {w : World} {S : St} {jb : Nat} {bj bt bv bx x : Nat} {v tk : Int} {dl : Int} (hg : Good E L S w) (henv : Env L w [(bj, [.pointer (some ⟨jb, 0, none⟩)]), (bt, [.int .i64 tk]), (bv, [.int .i64 v]), (bx, [.int .u64 x]), (jb, [.pointer (some ⟨E.k, 0, none⟩), .int .i64 wk, .int .i64 s, .int .i64 n, .int .i64 g, vk])]) (hk : ConSim E.cf (prApp E.cf R0) E t isE m L w vk (.ret k)) (hw : 0 ≤ wk) (hbd : Bd (S.note (migratePoint wk n g 4))) :
    Calls Tryz.prog 248 #[.int .i64 dl, .bool false, .pointer (some ⟨bj, 0, none⟩), .pointer (some ⟨bt, 0, none⟩), .pointer (some ⟨bv, 0, none⟩), .pointer (some ⟨bx, 0, none⟩)] w (Post E.cf (prApp E.cf R0) E t m L w (((S.note (migratePoint wk n g 4)), some (pushK .tickets tk (.ret (.mg5 k)))))) := by
  have hn := hbd.of_note
  have HD := Go.Lib.hid (Did.refl t L w)
  have HG := Go.Lib.hid hg
  have HE := Go.Lib.hid henv
  obtain ⟨ghk, chk, hvhk, hgfhk, _⟩ := id hk
  subst hvhk
  have henhk : ∀ (args : Array Value) (w : World), (callFunc ghk args).run Tryz.prog w = .ok (.enter ghk args) w := hgfhk
  have Hhk := Go.Lib.hid hk
  clear hg henv hk hgfhk
  have q0_0 : w.cell? ⟨bj, 0, none⟩ = some (.pointer (some ⟨jb, 0, none⟩)) := HE.out.cell 0 0 rfl rfl
  have q1_0 : w.cell? ⟨bt, 0, none⟩ = some (.int .i64 tk) := HE.out.cell 1 0 rfl rfl
  have q2_0 : w.cell? ⟨bv, 0, none⟩ = some (.int .i64 v) := HE.out.cell 2 0 rfl rfl
  have q3_0 : w.cell? ⟨bx, 0, none⟩ = some (.int .u64 x) := HE.out.cell 3 0 rfl rfl
  have q4_0 : w.cell? ⟨jb, 0, none⟩ = some (.pointer (some ⟨E.k, 0, none⟩)) := HE.out.cell 4 0 rfl rfl
  have q4_1 : w.cell? ⟨jb, 1, none⟩ = some (.int .i64 wk) := HE.out.cell 4 1 rfl rfl
  have q4_2 : w.cell? ⟨jb, 2, none⟩ = some (.int .i64 s) := HE.out.cell 4 2 rfl rfl
  have q4_3 : w.cell? ⟨jb, 3, none⟩ = some (.int .i64 n) := HE.out.cell 4 3 rfl rfl
  have q4_4 : w.cell? ⟨jb, 4, none⟩ = some (.int .i64 g) := HE.out.cell 4 4 rfl rfl
  have q4_5 : w.cell? ⟨jb, 5, none⟩ = some (.func (.func ghk) #[] chk) := HE.out.cell 4 5 rfl rfl
  go_enter Tryz.func248, Tryz.ntmps248
  go_wp2_with fail
  refine (mg_point HG.out (HE.out.sub (env' := [(jb, [.pointer (some ⟨E.k, 0, none⟩), .int .i64 wk, .int .i64 s, .int .i64 n, .int .i64 g, .func (.func ghk) #[] chk])]) (by simp)) hn (fun w => migrateE_right wk n g 4 hw (by decide) w)).mono ?_
  rintro e w1 ⟨L1, rfl, hno⟩
  clear q0_0 q1_0 q2_0 q3_0 q4_0 q4_1 q4_2 q4_3 q4_4 q4_5
  replace HG := Go.Lib.hid (hno.good)
  replace HE := Go.Lib.hid (HE.out.ext (hno.shr.ext t))
  replace Hhk := Go.Lib.hid (ConSim.ext E.cf (prApp E.cf R0) E t Hhk.out (hno.shr.ext t))
  replace HD := Go.Lib.hid (HD.out.trans (hno.shr.did t))
  clear hno
  have q0_0 : w1.cell? ⟨bj, 0, none⟩ = some (.pointer (some ⟨jb, 0, none⟩)) := HE.out.cell 0 0 rfl rfl
  have q1_0 : w1.cell? ⟨bt, 0, none⟩ = some (.int .i64 tk) := HE.out.cell 1 0 rfl rfl
  have q2_0 : w1.cell? ⟨bv, 0, none⟩ = some (.int .i64 v) := HE.out.cell 2 0 rfl rfl
  have q3_0 : w1.cell? ⟨bx, 0, none⟩ = some (.int .u64 x) := HE.out.cell 3 0 rfl rfl
  have q4_0 : w1.cell? ⟨jb, 0, none⟩ = some (.pointer (some ⟨E.k, 0, none⟩)) := HE.out.cell 4 0 rfl rfl
  have q4_1 : w1.cell? ⟨jb, 1, none⟩ = some (.int .i64 wk) := HE.out.cell 4 1 rfl rfl
  have q4_2 : w1.cell? ⟨jb, 2, none⟩ = some (.int .i64 s) := HE.out.cell 4 2 rfl rfl
  have q4_3 : w1.cell? ⟨jb, 3, none⟩ = some (.int .i64 n) := HE.out.cell 4 3 rfl rfl
  have q4_4 : w1.cell? ⟨jb, 4, none⟩ = some (.int .i64 g) := HE.out.cell 4 4 rfl rfl
  have q4_5 : w1.cell? ⟨jb, 5, none⟩ = some (.func (.func ghk) #[] chk) := HE.out.cell 4 5 rfl rfl
  have HTK := Go.Lib.hid (arm_tickets HG.out)
  go_wp2
  have q0_0' : ∀ d os, (Sort.grow (redrawn w1 d) os).cell? ⟨bj, 0, none⟩ = some (.pointer (some ⟨jb, 0, none⟩)) := fun d os => cell_regrown q0_0 d os
  have q1_0' : ∀ d os, (Sort.grow (redrawn w1 d) os).cell? ⟨bt, 0, none⟩ = some (.int .i64 tk) := fun d os => cell_regrown q1_0 d os
  have q2_0' : ∀ d os, (Sort.grow (redrawn w1 d) os).cell? ⟨bv, 0, none⟩ = some (.int .i64 v) := fun d os => cell_regrown q2_0 d os
  have q3_0' : ∀ d os, (Sort.grow (redrawn w1 d) os).cell? ⟨bx, 0, none⟩ = some (.int .u64 x) := fun d os => cell_regrown q3_0 d os
  have q4_0' : ∀ d os, (Sort.grow (redrawn w1 d) os).cell? ⟨jb, 0, none⟩ = some (.pointer (some ⟨E.k, 0, none⟩)) := fun d os => cell_regrown q4_0 d os
  have q4_1' : ∀ d os, (Sort.grow (redrawn w1 d) os).cell? ⟨jb, 1, none⟩ = some (.int .i64 wk) := fun d os => cell_regrown q4_1 d os
  have q4_2' : ∀ d os, (Sort.grow (redrawn w1 d) os).cell? ⟨jb, 2, none⟩ = some (.int .i64 s) := fun d os => cell_regrown q4_2 d os
  have q4_3' : ∀ d os, (Sort.grow (redrawn w1 d) os).cell? ⟨jb, 3, none⟩ = some (.int .i64 n) := fun d os => cell_regrown q4_3 d os
  have q4_4' : ∀ d os, (Sort.grow (redrawn w1 d) os).cell? ⟨jb, 4, none⟩ = some (.int .i64 g) := fun d os => cell_regrown q4_4 d os
  have q4_5' : ∀ d os, (Sort.grow (redrawn w1 d) os).cell? ⟨jb, 5, none⟩ = some (.func (.func ghk) #[] chk) := fun d os => cell_regrown q4_5 d os
  refine wp_region_below_tail 7 (by kernel_rfl) (by kernel_rfl) ?_
  simp only [List.take_succ_cons, List.take_zero, List.drop_succ_cons, List.drop_zero]
  repeat (go_big_quiet_step (first
    | (go_at_call 24; rename_i p; exact Calls.regrown_of (HTK.out _ (below_regrown w1 p.d p.os)))))
  refine wpQuiet_nil ?_
  intro w2 hw'
  obtain ⟨p, rfl⟩ := hw'
  have hb := below_regrown w1 p.d p.os
  clear q0_0' q1_0' q2_0' q3_0' q4_0' q4_1' q4_2' q4_3' q4_4' q4_5' q0_0 q1_0 q2_0 q3_0 q4_0 q4_1 q4_2 q4_3 q4_4 q4_5
  generalize Sort.grow (redrawn w1 p.d) p.os = w2 at *
  replace HG := Go.Lib.hid (HG.out.below hb)
  replace HE := Go.Lib.hid (HE.out.ext (below_ext hb t L1))
  replace Hhk := Go.Lib.hid (ConSim.ext E.cf (prApp E.cf R0) E t Hhk.out (below_ext hb t L1))
  replace HD := Go.Lib.hid (HD.out.trans (below_did hb t L1))
  clear hb
  have q0_0 : w2.cell? ⟨bj, 0, none⟩ = some (.pointer (some ⟨jb, 0, none⟩)) := HE.out.cell 0 0 rfl rfl
  have q1_0 : w2.cell? ⟨bt, 0, none⟩ = some (.int .i64 tk) := HE.out.cell 1 0 rfl rfl
  have q2_0 : w2.cell? ⟨bv, 0, none⟩ = some (.int .i64 v) := HE.out.cell 2 0 rfl rfl
  have q3_0 : w2.cell? ⟨bx, 0, none⟩ = some (.int .u64 x) := HE.out.cell 3 0 rfl rfl
  have q4_0 : w2.cell? ⟨jb, 0, none⟩ = some (.pointer (some ⟨E.k, 0, none⟩)) := HE.out.cell 4 0 rfl rfl
  have q4_1 : w2.cell? ⟨jb, 1, none⟩ = some (.int .i64 wk) := HE.out.cell 4 1 rfl rfl
  have q4_2 : w2.cell? ⟨jb, 2, none⟩ = some (.int .i64 s) := HE.out.cell 4 2 rfl rfl
  have q4_3 : w2.cell? ⟨jb, 3, none⟩ = some (.int .i64 n) := HE.out.cell 4 3 rfl rfl
  have q4_4 : w2.cell? ⟨jb, 4, none⟩ = some (.int .i64 g) := HE.out.cell 4 4 rfl rfl
  have q4_5 : w2.cell? ⟨jb, 5, none⟩ = some (.func (.func ghk) #[] chk) := HE.out.cell 4 5 rfl rfl
  have HT := Go.Lib.hid (push_tickets hR (i := tk) HG.out (mg5_con (bj := bj) hR (HE.out.sub (env' := [(bj, [.pointer (some ⟨jb, 0, none⟩)]), (jb, [.pointer (some ⟨E.k, 0, none⟩), .int .i64 wk, .int .i64 s, .int .i64 n, .int .i64 g, .func (.func ghk) #[] chk])]) (by simp)) Hhk.out))
  go_wp2_with fail
  refine (HT.out).mono ?_
  rintro e w9 ⟨v2, L9, rfl, hd2, hg2, hc2⟩
  go_wp2
  go_ret
  exact ⟨v2, L9, rfl, HD.out.trans hd2, hg2, hc2⟩
set_option maxHeartbeats 2000000 in
theorem mg4_yes (hR : RMono (prApp E.cf R0)) {m : Nat} {wk n g s : Int} {vk : Value} {k : PR ρ} {L : Lab} {w : World} {S : St} {jb : Nat} {bj bt bv bx x : Nat} {v tk : Int} {dl : Int} (hg : Good E L S w) (henv : Env L w [(bj, [.pointer (some ⟨jb, 0, none⟩)]), (bt, [.int .i64 tk]), (bv, [.int .i64 v]), (bx, [.int .u64 x]), (jb, [.pointer (some ⟨E.k, 0, none⟩), .int .i64 wk, .int .i64 s, .int .i64 n, .int .i64 g, vk])]) (hk : ConSim E.cf (prApp E.cf R0) E t isE m L w vk (.ret k)) (hw : 0 ≤ wk) (hgb : 0 ≤ g ∧ g ≤ 4294967295) (hvb : 0 ≤ v ∧ v ≤ 65535) (hsb : 0 ≤ s ∧ s ≤ 4294967294) (hnb : 0 ≤ n ∧ n ≤ 4294967294) (hbd : Bd (S.note (migratePoint wk n g 0))) :
    Calls Tryz.prog 248 #[.int .i64 dl, .bool true, .pointer (some ⟨bj, 0, none⟩), .pointer (some ⟨bt, 0, none⟩), .pointer (some ⟨bv, 0, none⟩), .pointer (some ⟨bx, 0, none⟩)] w (Post E.cf (prApp E.cf R0) E t m L w (((S.note (migratePoint wk n g 0)), some (writeK E.cf tk g v n dl (.ret (.mg6 n g s x v tk k)))))) := by
  have hn := hbd.of_note
  have HD := Go.Lib.hid (Did.refl t L w)
  have HG := Go.Lib.hid hg
  have HE := Go.Lib.hid henv
  obtain ⟨ghk, chk, hvhk, hgfhk, _⟩ := id hk
  subst hvhk
  have henhk : ∀ (args : Array Value) (w : World), (callFunc ghk args).run Tryz.prog w = .ok (.enter ghk args) w := hgfhk
  have Hhk := Go.Lib.hid hk
  clear hg henv hk hgfhk
  have q0_0 : w.cell? ⟨bj, 0, none⟩ = some (.pointer (some ⟨jb, 0, none⟩)) := HE.out.cell 0 0 rfl rfl
  have q1_0 : w.cell? ⟨bt, 0, none⟩ = some (.int .i64 tk) := HE.out.cell 1 0 rfl rfl
  have q2_0 : w.cell? ⟨bv, 0, none⟩ = some (.int .i64 v) := HE.out.cell 2 0 rfl rfl
  have q3_0 : w.cell? ⟨bx, 0, none⟩ = some (.int .u64 x) := HE.out.cell 3 0 rfl rfl
  have q4_0 : w.cell? ⟨jb, 0, none⟩ = some (.pointer (some ⟨E.k, 0, none⟩)) := HE.out.cell 4 0 rfl rfl
  have q4_1 : w.cell? ⟨jb, 1, none⟩ = some (.int .i64 wk) := HE.out.cell 4 1 rfl rfl
  have q4_2 : w.cell? ⟨jb, 2, none⟩ = some (.int .i64 s) := HE.out.cell 4 2 rfl rfl
  have q4_3 : w.cell? ⟨jb, 3, none⟩ = some (.int .i64 n) := HE.out.cell 4 3 rfl rfl
  have q4_4 : w.cell? ⟨jb, 4, none⟩ = some (.int .i64 g) := HE.out.cell 4 4 rfl rfl
  have q4_5 : w.cell? ⟨jb, 5, none⟩ = some (.func (.func ghk) #[] chk) := HE.out.cell 4 5 rfl rfl
  go_enter Tryz.func248, Tryz.ntmps248
  go_wp2_with fail
  refine (mg_point HG.out (HE.out.sub (env' := [(jb, [.pointer (some ⟨E.k, 0, none⟩), .int .i64 wk, .int .i64 s, .int .i64 n, .int .i64 g, .func (.func ghk) #[] chk])]) (by simp)) hn (fun w => migrate0_right wk n g hw w)).mono ?_
  rintro e w1 ⟨L1, rfl, hno⟩
  clear q0_0 q1_0 q2_0 q3_0 q4_0 q4_1 q4_2 q4_3 q4_4 q4_5
  replace HG := Go.Lib.hid (hno.good)
  replace HE := Go.Lib.hid (HE.out.ext (hno.shr.ext t))
  replace Hhk := Go.Lib.hid (ConSim.ext E.cf (prApp E.cf R0) E t Hhk.out (hno.shr.ext t))
  replace HD := Go.Lib.hid (HD.out.trans (hno.shr.did t))
  clear hno
  have q0_0 : w1.cell? ⟨bj, 0, none⟩ = some (.pointer (some ⟨jb, 0, none⟩)) := HE.out.cell 0 0 rfl rfl
  have q1_0 : w1.cell? ⟨bt, 0, none⟩ = some (.int .i64 tk) := HE.out.cell 1 0 rfl rfl
  have q2_0 : w1.cell? ⟨bv, 0, none⟩ = some (.int .i64 v) := HE.out.cell 2 0 rfl rfl
  have q3_0 : w1.cell? ⟨bx, 0, none⟩ = some (.int .u64 x) := HE.out.cell 3 0 rfl rfl
  have q4_0 : w1.cell? ⟨jb, 0, none⟩ = some (.pointer (some ⟨E.k, 0, none⟩)) := HE.out.cell 4 0 rfl rfl
  have q4_1 : w1.cell? ⟨jb, 1, none⟩ = some (.int .i64 wk) := HE.out.cell 4 1 rfl rfl
  have q4_2 : w1.cell? ⟨jb, 2, none⟩ = some (.int .i64 s) := HE.out.cell 4 2 rfl rfl
  have q4_3 : w1.cell? ⟨jb, 3, none⟩ = some (.int .i64 n) := HE.out.cell 4 3 rfl rfl
  have q4_4 : w1.cell? ⟨jb, 4, none⟩ = some (.int .i64 g) := HE.out.cell 4 4 rfl rfl
  have q4_5 : w1.cell? ⟨jb, 5, none⟩ = some (.func (.func ghk) #[] chk) := HE.out.cell 4 5 rfl rfl
  go_wp2_with fail
  refine (mg_lay (x := x) (v := v) (tk := tk) (dl := dl) hR HG.out (HE.out.sub (env' := [(jb, [.pointer (some ⟨E.k, 0, none⟩), .int .i64 wk, .int .i64 s, .int .i64 n, .int .i64 g, .func (.func ghk) #[] chk])]) (by simp)) (mg7_con (x := x) (v := v) hR (HE.out.sub (env' := [(bj, [.pointer (some ⟨jb, 0, none⟩)]), (bx, [.int .u64 x]), (bv, [.int .i64 v]), (jb, [.pointer (some ⟨E.k, 0, none⟩), .int .i64 wk, .int .i64 s, .int .i64 n, .int .i64 g, .func (.func ghk) #[] chk])]) (by simp)) Hhk.out hgb hvb hsb) hgb hvb hnb).mono ?_
  rintro e w9 ⟨v2, L9, rfl, hd2, hg2, hc2⟩
  go_wp2
  go_ret
  exact ⟨v2, L9, rfl, HD.out.trans hd2, hg2, hc2⟩
theorem mg4_arm (hR : RMono (prApp E.cf R0)) {m : Nat} {wk n g s : Int} {vk : Value} {k : PR ρ} {L : Lab} {w : World} {jb : Nat} {bj bt bv bx x : Nat} {v tk : Int} (henv : Env L w [(bj, [.pointer (some ⟨jb, 0, none⟩)]), (bt, [.int .i64 tk]), (bv, [.int .i64 v]), (bx, [.int .u64 x]), (jb, [.pointer (some ⟨E.k, 0, none⟩), .int .i64 wk, .int .i64 s, .int .i64 n, .int .i64 g, vk])]) (hk : ConSim E.cf (prApp E.cf R0) E t isE m L w vk (.ret k)) (hw : 0 ≤ wk) (hvb : 0 ≤ v ∧ v ≤ 65535) (hsb : 0 ≤ s ∧ s ≤ 4294967294) (hnb : 0 ≤ n ∧ n ≤ 4294967294) :
    ArmSim R0 E t g m L w (.func (.func 248) #[] #[.pointer (some ⟨bj, 0, none⟩), .pointer (some ⟨bt, 0, none⟩), .pointer (some ⟨bv, 0, none⟩), .pointer (some ⟨bx, 0, none⟩)]) (.mg4 wk n g s x v tk k) := by
  refine ⟨_, _, rfl, enters_of Tryz.func248 (by kernel_rfl) rfl, ?_⟩
  intro y L' w' S hy hx hg hbd
  show Calls _ _ #[_, _, _, _, _, _] _ _
  rw [prApp] at hbd ⊢
  cases h : armedW y g with
  | true =>
    have hgb : 0 ≤ g ∧ g ≤ 4294967295 := by have h1 := part_hi_lt y; have h2 : ((part y 32 32 : Nat) : Int) = g := (of_decide_eq_true (show decide (part y 0 2 = 1 ∧ ((part y 32 32 : Nat) : Int) = g) = true from h)).2; omega
    rw [h, if_pos rfl] at hbd
    rw [if_pos rfl]
    exact mg4_yes hR hg (henv.ext hx) (ConSim.ext E.cf (prApp E.cf R0) E t hk hx) hw hgb hvb hsb hnb hbd
  | false =>
    rw [h, if_neg (by decide)] at hbd
    rw [if_neg (by decide)]
    exact mg4_no hR hg (henv.ext hx) (ConSim.ext E.cf (prApp E.cf R0) E t hk hx) hw hbd
set_option maxHeartbeats 2000000 in
theorem mg3_no (hR : RMono (prApp E.cf R0)) {m : Nat} {wk n g s : Int} {vk : Value} {k : PR ρ} {L : Lab} {w : World} {S : St} {jb : Nat} {bj bv bx x : Nat} {v : Int} {tk : Int} (hg : Good E L S w) (henv : Env L w [(bj, [.pointer (some ⟨jb, 0, none⟩)]), (bv, [.int .i64 v]), (bx, [.int .u64 x]), (jb, [.pointer (some ⟨E.k, 0, none⟩), .int .i64 wk, .int .i64 s, .int .i64 n, .int .i64 g, vk])]) (hk : ConSim E.cf (prApp E.cf R0) E t isE m L w vk (.ret k)) (hw : 0 ≤ wk) (hbd : Bd (prApp E.cf R0 k (.e 3) (S.note (migratePoint wk n g 3))).1) :
    Calls Tryz.prog 247 #[.int .i64 tk, .bool false, .pointer (some ⟨bj, 0, none⟩), .pointer (some ⟨bv, 0, none⟩), .pointer (some ⟨bx, 0, none⟩)] w (Post E.cf (prApp E.cf R0) E t m L w (prApp E.cf R0 k (.e 3) (S.note (migratePoint wk n g 3)))) := by
  have HD := Go.Lib.hid (Did.refl t L w)
  have HG := Go.Lib.hid hg
  have HE := Go.Lib.hid henv
  obtain ⟨ghk, chk, hvhk, hgfhk, _⟩ := id hk
  subst hvhk
  have henhk : ∀ (args : Array Value) (w : World), (callFunc ghk args).run Tryz.prog w = .ok (.enter ghk args) w := hgfhk
  have Hhk := Go.Lib.hid hk
  clear hg henv hk hgfhk
  have hb0 : Below w.heap.size w (w.alloc (.cells #[.int .i64 tk] 3)) := ((Below.refl _ _).alloc (Nat.le_refl _) _)
  have HE0 : Hid (Env L (w.alloc (.cells #[.int .i64 tk] 3)) [(w.heap.size, [.int .i64 tk]), (bj, [.pointer (some ⟨jb, 0, none⟩)]), (bv, [.int .i64 v]), (bx, [.int .u64 x]), (jb, [.pointer (some ⟨E.k, 0, none⟩), .int .i64 wk, .int .i64 s, .int .i64 n, .int .i64 g, .func (.func ghk) #[] chk])]) := Go.Lib.hid (Env.alloc_at HE.out (fun b hb => HG.out.new b (by first | exact hb | (simp at hb; omega))) [.int .i64 tk] 3 (b := w.heap.size) (by first | rfl | (simp; done) | (simp; omega)))
  replace HG := Go.Lib.hid (HG.out.below hb0)
  replace HE := Go.Lib.hid (HE0.out)
  replace Hhk := Go.Lib.hid (ConSim.ext E.cf (prApp E.cf R0) E t Hhk.out (below_ext hb0 t L))
  replace HD := Go.Lib.hid (HD.out.trans (below_did hb0 t L))
  clear hb0 HE0
  have q0_0 : (w.alloc (.cells #[.int .i64 tk] 3)).cell? ⟨w.heap.size, 0, none⟩ = some (.int .i64 tk) := HE.out.cell 0 0 rfl rfl
  have q1_0 : (w.alloc (.cells #[.int .i64 tk] 3)).cell? ⟨bj, 0, none⟩ = some (.pointer (some ⟨jb, 0, none⟩)) := HE.out.cell 1 0 rfl rfl
  have q2_0 : (w.alloc (.cells #[.int .i64 tk] 3)).cell? ⟨bv, 0, none⟩ = some (.int .i64 v) := HE.out.cell 2 0 rfl rfl
  have q3_0 : (w.alloc (.cells #[.int .i64 tk] 3)).cell? ⟨bx, 0, none⟩ = some (.int .u64 x) := HE.out.cell 3 0 rfl rfl
  have q4_0 : (w.alloc (.cells #[.int .i64 tk] 3)).cell? ⟨jb, 0, none⟩ = some (.pointer (some ⟨E.k, 0, none⟩)) := HE.out.cell 4 0 rfl rfl
  have q4_1 : (w.alloc (.cells #[.int .i64 tk] 3)).cell? ⟨jb, 1, none⟩ = some (.int .i64 wk) := HE.out.cell 4 1 rfl rfl
  have q4_2 : (w.alloc (.cells #[.int .i64 tk] 3)).cell? ⟨jb, 2, none⟩ = some (.int .i64 s) := HE.out.cell 4 2 rfl rfl
  have q4_3 : (w.alloc (.cells #[.int .i64 tk] 3)).cell? ⟨jb, 3, none⟩ = some (.int .i64 n) := HE.out.cell 4 3 rfl rfl
  have q4_4 : (w.alloc (.cells #[.int .i64 tk] 3)).cell? ⟨jb, 4, none⟩ = some (.int .i64 g) := HE.out.cell 4 4 rfl rfl
  have q4_5 : (w.alloc (.cells #[.int .i64 tk] 3)).cell? ⟨jb, 5, none⟩ = some (.func (.func ghk) #[] chk) := HE.out.cell 4 5 rfl rfl
  go_enter Tryz.func247, Tryz.ntmps247
  go_wp2_with fail
  generalize (w.alloc (.cells #[.int .i64 tk] 3)) = w0 at *
  refine (mg_fail (er := 3) hR HG.out (HE.out.sub (env' := [(jb, [.pointer (some ⟨E.k, 0, none⟩), .int .i64 wk, .int .i64 s, .int .i64 n, .int .i64 g, .func (.func ghk) #[] chk])]) (by simp)) Hhk.out hw (by decide) hbd).mono ?_
  rintro e w9 ⟨v2, L9, rfl, hd2, hg2, hc2⟩
  go_wp2
  go_ret
  exact ⟨v2, L9, rfl, HD.out.trans hd2, hg2, hc2⟩
set_option maxHeartbeats 2000000 in
theorem mg3_yes (hR : RMono (prApp E.cf R0)) {m : Nat} {wk n g s : Int} {vk : Value} {k : PR ρ} {L : Lab} {w : World} {S : St} {jb : Nat} {bj bv bx x : Nat} {v : Int} {tk : Int} (hg : Good E L S w) (henv : Env L w [(bj, [.pointer (some ⟨jb, 0, none⟩)]), (bv, [.int .i64 v]), (bx, [.int .u64 x]), (jb, [.pointer (some ⟨E.k, 0, none⟩), .int .i64 wk, .int .i64 s, .int .i64 n, .int .i64 g, vk])]) (hk : ConSim E.cf (prApp E.cf R0) E t isE m L w vk (.ret k)) (hw : 0 ≤ wk) (hvb : 0 ≤ v ∧ v ≤ 65535) (hsb : 0 ≤ s ∧ s ≤ 4294967294) (hnb : 0 ≤ n ∧ n ≤ 4294967294) :
    Calls Tryz.prog 247 #[.int .i64 tk, .bool true, .pointer (some ⟨bj, 0, none⟩), .pointer (some ⟨bv, 0, none⟩), .pointer (some ⟨bx, 0, none⟩)] w (Post E.cf (prApp E.cf R0) E t m L w ((S, some (.load (E.cf.state n) (.ret (.mg4 wk n g s x v tk k)))))) := by
  have HD := Go.Lib.hid (Did.refl t L w)
  have HG := Go.Lib.hid hg
  have HE := Go.Lib.hid henv
  obtain ⟨ghk, chk, hvhk, hgfhk, _⟩ := id hk
  subst hvhk
  have henhk : ∀ (args : Array Value) (w : World), (callFunc ghk args).run Tryz.prog w = .ok (.enter ghk args) w := hgfhk
  have Hhk := Go.Lib.hid hk
  clear hg henv hk hgfhk
  have hb0 : Below w.heap.size w (w.alloc (.cells #[.int .i64 tk] 3)) := ((Below.refl _ _).alloc (Nat.le_refl _) _)
  have HE0 : Hid (Env L (w.alloc (.cells #[.int .i64 tk] 3)) [(w.heap.size, [.int .i64 tk]), (bj, [.pointer (some ⟨jb, 0, none⟩)]), (bv, [.int .i64 v]), (bx, [.int .u64 x]), (jb, [.pointer (some ⟨E.k, 0, none⟩), .int .i64 wk, .int .i64 s, .int .i64 n, .int .i64 g, .func (.func ghk) #[] chk])]) := Go.Lib.hid (Env.alloc_at HE.out (fun b hb => HG.out.new b (by first | exact hb | (simp at hb; omega))) [.int .i64 tk] 3 (b := w.heap.size) (by first | rfl | (simp; done) | (simp; omega)))
  replace HG := Go.Lib.hid (HG.out.below hb0)
  replace HE := Go.Lib.hid (HE0.out)
  replace Hhk := Go.Lib.hid (ConSim.ext E.cf (prApp E.cf R0) E t Hhk.out (below_ext hb0 t L))
  replace HD := Go.Lib.hid (HD.out.trans (below_did hb0 t L))
  clear hb0 HE0
  have q0_0 : (w.alloc (.cells #[.int .i64 tk] 3)).cell? ⟨w.heap.size, 0, none⟩ = some (.int .i64 tk) := HE.out.cell 0 0 rfl rfl
  have q1_0 : (w.alloc (.cells #[.int .i64 tk] 3)).cell? ⟨bj, 0, none⟩ = some (.pointer (some ⟨jb, 0, none⟩)) := HE.out.cell 1 0 rfl rfl
  have q2_0 : (w.alloc (.cells #[.int .i64 tk] 3)).cell? ⟨bv, 0, none⟩ = some (.int .i64 v) := HE.out.cell 2 0 rfl rfl
  have q3_0 : (w.alloc (.cells #[.int .i64 tk] 3)).cell? ⟨bx, 0, none⟩ = some (.int .u64 x) := HE.out.cell 3 0 rfl rfl
  have q4_0 : (w.alloc (.cells #[.int .i64 tk] 3)).cell? ⟨jb, 0, none⟩ = some (.pointer (some ⟨E.k, 0, none⟩)) := HE.out.cell 4 0 rfl rfl
  have q4_1 : (w.alloc (.cells #[.int .i64 tk] 3)).cell? ⟨jb, 1, none⟩ = some (.int .i64 wk) := HE.out.cell 4 1 rfl rfl
  have q4_2 : (w.alloc (.cells #[.int .i64 tk] 3)).cell? ⟨jb, 2, none⟩ = some (.int .i64 s) := HE.out.cell 4 2 rfl rfl
  have q4_3 : (w.alloc (.cells #[.int .i64 tk] 3)).cell? ⟨jb, 3, none⟩ = some (.int .i64 n) := HE.out.cell 4 3 rfl rfl
  have q4_4 : (w.alloc (.cells #[.int .i64 tk] 3)).cell? ⟨jb, 4, none⟩ = some (.int .i64 g) := HE.out.cell 4 4 rfl rfl
  have q4_5 : (w.alloc (.cells #[.int .i64 tk] 3)).cell? ⟨jb, 5, none⟩ = some (.func (.func ghk) #[] chk) := HE.out.cell 4 5 rfl rfl
  go_enter Tryz.func247, Tryz.ntmps247
  go_wp2_with fail
  generalize (w.alloc (.cells #[.int .i64 tk] 3)) = w0 at *
  refine (mg_armed (g := g) hR HG.out (HE.out.sub (env' := [(jb, [.pointer (some ⟨E.k, 0, none⟩), .int .i64 wk, .int .i64 s, .int .i64 n, .int .i64 g, .func (.func ghk) #[] chk])]) (by simp)) (mg4_arm (x := x) (v := v) (tk := tk) (k := k) hR (HE.out.sub (env' := [(bj, [.pointer (some ⟨jb, 0, none⟩)]), (w.heap.size, [.int .i64 tk]), (bv, [.int .i64 v]), (bx, [.int .u64 x]), (jb, [.pointer (some ⟨E.k, 0, none⟩), .int .i64 wk, .int .i64 s, .int .i64 n, .int .i64 g, .func (.func ghk) #[] chk])]) (by simp)) Hhk.out hw hvb hsb hnb)).mono ?_
  rintro e w9 ⟨v2, L9, rfl, hd2, hg2, hc2⟩
  go_wp2
  go_ret
  exact ⟨v2, L9, rfl, HD.out.trans hd2, hg2, hc2⟩
theorem mg3_con (hR : RMono (prApp E.cf R0)) {m : Nat} {wk n g s : Int} {vk : Value} {k : PR ρ} {L : Lab} {w : World} {jb : Nat} {bj bv bx x : Nat} {v : Int} (henv : Env L w [(bj, [.pointer (some ⟨jb, 0, none⟩)]), (bv, [.int .i64 v]), (bx, [.int .u64 x]), (jb, [.pointer (some ⟨E.k, 0, none⟩), .int .i64 wk, .int .i64 s, .int .i64 n, .int .i64 g, vk])]) (hk : ConSim E.cf (prApp E.cf R0) E t isE m L w vk (.ret k)) (hw : 0 ≤ wk) (hvb : 0 ≤ v ∧ v ≤ 65535) (hsb : 0 ≤ s ∧ s ≤ 4294967294) (hnb : 0 ≤ n ∧ n ≤ 4294967294) :
    ConSim E.cf (prApp E.cf R0) E t isPop m L w (.func (.func 247) #[] #[.pointer (some ⟨bj, 0, none⟩), .pointer (some ⟨bv, 0, none⟩), .pointer (some ⟨bx, 0, none⟩)]) (.ret (.mg3 wk n g s x v k)) := by
  refine ⟨_, _, rfl, enters_of Tryz.func247 (by kernel_rfl) rfl, ?_⟩
  intro a L' w' S ha hx hg hbd
  cases a with
  | pop tk ok =>
    show Calls _ _ #[_, _, _, _, _] _ _
    cases ok with
    | true => exact mg3_yes hR hg (henv.ext hx) (ConSim.ext E.cf (prApp E.cf R0) E t hk hx) hw hvb hsb hnb
    | false => exact mg3_no hR hg (henv.ext hx) (ConSim.ext E.cf (prApp E.cf R0) E t hk hx) hw hbd
  | _ => exact absurd ha (by simp [isPop])
set_option maxHeartbeats 2000000 in
theorem mg_ticket (hR : RMono (prApp E.cf R0)) {m : Nat} {wk n g s : Int} {vk : Value} {k : PR ρ} {L : Lab} {w : World} {S : St} {jb : Nat} {x : Nat} {v : Int} (hg : Good E L S w) (henv : Env L w [(jb, [.pointer (some ⟨E.k, 0, none⟩), .int .i64 wk, .int .i64 s, .int .i64 n, .int .i64 g, vk])]) (hk : ConSim E.cf (prApp E.cf R0) E t isE m L w vk (.ret k)) (hw : 0 ≤ wk) (hvb : 0 ≤ v ∧ v ≤ 65535) (hsb : 0 ≤ s ∧ s ≤ 4294967294) (hnb : 0 ≤ n ∧ n ≤ 4294967294) :
    Calls Tryz.prog 217 #[.pointer (some ⟨jb, 0, none⟩), .int .u64 x, .int .i64 v] w (Post E.cf (prApp E.cf R0) E t m L w ((S, some (popK .tickets (.ret (.mg3 wk n g s x v k)))))) := by
  have HD := Go.Lib.hid (Did.refl t L w)
  have HG := Go.Lib.hid hg
  have HE := Go.Lib.hid henv
  obtain ⟨ghk, chk, hvhk, hgfhk, _⟩ := id hk
  subst hvhk
  have henhk : ∀ (args : Array Value) (w : World), (callFunc ghk args).run Tryz.prog w = .ok (.enter ghk args) w := hgfhk
  have Hhk := Go.Lib.hid hk
  clear hg henv hk hgfhk
  have hb0 : Below w.heap.size w (((w.alloc (.cells #[.pointer (some ⟨jb, 0, none⟩)] 176)).alloc (.cells #[.int .u64 x] 92)).alloc (.cells #[.int .i64 v] 3)) := ((((Below.refl _ _).alloc (Nat.le_refl _) _).alloc (by first | (simp; done) | (simp; omega)) _).alloc (by first | (simp; done) | (simp; omega)) _)
  have HE0 : Hid (Env L (((w.alloc (.cells #[.pointer (some ⟨jb, 0, none⟩)] 176)).alloc (.cells #[.int .u64 x] 92)).alloc (.cells #[.int .i64 v] 3)) [(w.heap.size + 1 + 1, [.int .i64 v]), (w.heap.size + 1, [.int .u64 x]), (w.heap.size, [.pointer (some ⟨jb, 0, none⟩)]), (jb, [.pointer (some ⟨E.k, 0, none⟩), .int .i64 wk, .int .i64 s, .int .i64 n, .int .i64 g, .func (.func ghk) #[] chk])]) := Go.Lib.hid (Env.alloc_at (Env.alloc_at (Env.alloc_at HE.out (fun b hb => HG.out.new b (by first | exact hb | (simp at hb; omega))) [.pointer (some ⟨jb, 0, none⟩)] 176 (b := w.heap.size) (by first | rfl | (simp; done) | (simp; omega))) (fun b hb => HG.out.new b (by first | exact hb | (simp at hb; omega))) [.int .u64 x] 92 (b := w.heap.size + 1) (by first | rfl | (simp; done) | (simp; omega))) (fun b hb => HG.out.new b (by first | exact hb | (simp at hb; omega))) [.int .i64 v] 3 (b := w.heap.size + 1 + 1) (by first | rfl | (simp; done) | (simp; omega)))
  replace HG := Go.Lib.hid (HG.out.below hb0)
  replace HE := Go.Lib.hid (HE0.out)
  replace Hhk := Go.Lib.hid (ConSim.ext E.cf (prApp E.cf R0) E t Hhk.out (below_ext hb0 t L))
  replace HD := Go.Lib.hid (HD.out.trans (below_did hb0 t L))
  clear hb0 HE0
  have q0_0 : (((w.alloc (.cells #[.pointer (some ⟨jb, 0, none⟩)] 176)).alloc (.cells #[.int .u64 x] 92)).alloc (.cells #[.int .i64 v] 3)).cell? ⟨w.heap.size + 1 + 1, 0, none⟩ = some (.int .i64 v) := HE.out.cell 0 0 rfl rfl
  have q1_0 : (((w.alloc (.cells #[.pointer (some ⟨jb, 0, none⟩)] 176)).alloc (.cells #[.int .u64 x] 92)).alloc (.cells #[.int .i64 v] 3)).cell? ⟨w.heap.size + 1, 0, none⟩ = some (.int .u64 x) := HE.out.cell 1 0 rfl rfl
  have q2_0 : (((w.alloc (.cells #[.pointer (some ⟨jb, 0, none⟩)] 176)).alloc (.cells #[.int .u64 x] 92)).alloc (.cells #[.int .i64 v] 3)).cell? ⟨w.heap.size, 0, none⟩ = some (.pointer (some ⟨jb, 0, none⟩)) := HE.out.cell 2 0 rfl rfl
  have q3_0 : (((w.alloc (.cells #[.pointer (some ⟨jb, 0, none⟩)] 176)).alloc (.cells #[.int .u64 x] 92)).alloc (.cells #[.int .i64 v] 3)).cell? ⟨jb, 0, none⟩ = some (.pointer (some ⟨E.k, 0, none⟩)) := HE.out.cell 3 0 rfl rfl
  have q3_1 : (((w.alloc (.cells #[.pointer (some ⟨jb, 0, none⟩)] 176)).alloc (.cells #[.int .u64 x] 92)).alloc (.cells #[.int .i64 v] 3)).cell? ⟨jb, 1, none⟩ = some (.int .i64 wk) := HE.out.cell 3 1 rfl rfl
  have q3_2 : (((w.alloc (.cells #[.pointer (some ⟨jb, 0, none⟩)] 176)).alloc (.cells #[.int .u64 x] 92)).alloc (.cells #[.int .i64 v] 3)).cell? ⟨jb, 2, none⟩ = some (.int .i64 s) := HE.out.cell 3 2 rfl rfl
  have q3_3 : (((w.alloc (.cells #[.pointer (some ⟨jb, 0, none⟩)] 176)).alloc (.cells #[.int .u64 x] 92)).alloc (.cells #[.int .i64 v] 3)).cell? ⟨jb, 3, none⟩ = some (.int .i64 n) := HE.out.cell 3 3 rfl rfl
  have q3_4 : (((w.alloc (.cells #[.pointer (some ⟨jb, 0, none⟩)] 176)).alloc (.cells #[.int .u64 x] 92)).alloc (.cells #[.int .i64 v] 3)).cell? ⟨jb, 4, none⟩ = some (.int .i64 g) := HE.out.cell 3 4 rfl rfl
  have q3_5 : (((w.alloc (.cells #[.pointer (some ⟨jb, 0, none⟩)] 176)).alloc (.cells #[.int .u64 x] 92)).alloc (.cells #[.int .i64 v] 3)).cell? ⟨jb, 5, none⟩ = some (.func (.func ghk) #[] chk) := HE.out.cell 3 5 rfl rfl
  go_enter Tryz.func217, Tryz.ntmps217
  go_wp2_with fail
  generalize (((w.alloc (.cells #[.pointer (some ⟨jb, 0, none⟩)] 176)).alloc (.cells #[.int .u64 x] 92)).alloc (.cells #[.int .i64 v] 3)) = w0 at *
  refine (core_Tickets HG.out).mono ?_
  rintro e w1 ⟨rfl, hb⟩
  clear q0_0 q1_0 q2_0 q3_0 q3_1 q3_2 q3_3 q3_4 q3_5
  replace HG := Go.Lib.hid (HG.out.below hb)
  replace HE := Go.Lib.hid (HE.out.ext (below_ext hb t L))
  replace Hhk := Go.Lib.hid (ConSim.ext E.cf (prApp E.cf R0) E t Hhk.out (below_ext hb t L))
  replace HD := Go.Lib.hid (HD.out.trans (below_did hb t L))
  clear hb
  have q0_0 : w1.cell? ⟨w.heap.size + 1 + 1, 0, none⟩ = some (.int .i64 v) := HE.out.cell 0 0 rfl rfl
  have q1_0 : w1.cell? ⟨w.heap.size + 1, 0, none⟩ = some (.int .u64 x) := HE.out.cell 1 0 rfl rfl
  have q2_0 : w1.cell? ⟨w.heap.size, 0, none⟩ = some (.pointer (some ⟨jb, 0, none⟩)) := HE.out.cell 2 0 rfl rfl
  have q3_0 : w1.cell? ⟨jb, 0, none⟩ = some (.pointer (some ⟨E.k, 0, none⟩)) := HE.out.cell 3 0 rfl rfl
  have q3_1 : w1.cell? ⟨jb, 1, none⟩ = some (.int .i64 wk) := HE.out.cell 3 1 rfl rfl
  have q3_2 : w1.cell? ⟨jb, 2, none⟩ = some (.int .i64 s) := HE.out.cell 3 2 rfl rfl
  have q3_3 : w1.cell? ⟨jb, 3, none⟩ = some (.int .i64 n) := HE.out.cell 3 3 rfl rfl
  have q3_4 : w1.cell? ⟨jb, 4, none⟩ = some (.int .i64 g) := HE.out.cell 3 4 rfl rfl
  have q3_5 : w1.cell? ⟨jb, 5, none⟩ = some (.func (.func ghk) #[] chk) := HE.out.cell 3 5 rfl rfl
  have HT := Go.Lib.hid (pop_tickets hR HG.out (mg3_con (x := x) (v := v) (k := k) hR (HE.out.sub (env' := [(w.heap.size, [.pointer (some ⟨jb, 0, none⟩)]), (w.heap.size + 1 + 1, [.int .i64 v]), (w.heap.size + 1, [.int .u64 x]), (jb, [.pointer (some ⟨E.k, 0, none⟩), .int .i64 wk, .int .i64 s, .int .i64 n, .int .i64 g, .func (.func ghk) #[] chk])]) (by simp)) Hhk.out hw hvb hsb hnb))
  go_wp2_with fail
  refine (HT.out).mono ?_
  rintro e w9 ⟨v2, L9, rfl, hd2, hg2, hc2⟩
  go_wp2
  go_ret
  exact ⟨v2, L9, rfl, HD.out.trans hd2, hg2, hc2⟩
end
end Go.Proofs.YtgemjjpmoejgdaaGreat
