/- A Start's closures: from its begin to its tickets. -/
import Derived.Test.YtgemjjpmoejgdaaGreatJoinm
namespace Go.Proofs.YtgemjjpmoejgdaaGreat
open Go.RowKit
set_option maxRecDepth 100000
set_option linter.unusedVariables false

section
variable {ρ : Type} {R0 : ρ → Arg → St → St × Option (K (PR ρ))} {E : G} {t : Nat}
set_option maxHeartbeats 2000000 in
theorem st4_no (hR : RMono (prApp E.cf R0)) {m : Nat} {wk ticks shard user : Int} {vk : Value} {k : PR ρ} {L : Lab} {w : World} {S : St} {jb : Nat} {bj bh bd : Nat} {n gen deadline tk : Int} (hg : Good E L S w) (henv : Env L w [(bj, [.pointer (some ⟨jb, 0, none⟩)]), (bh, [.int .i64 n, .int .i64 gen]), (bd, [.int .i64 deadline]), (jb, [.pointer (some ⟨E.k, 0, none⟩), .int .i64 wk, .int .i64 ticks, .int .i64 shard, .int .i64 user, vk])]) (hk : ConSim E.cf (prApp E.cf R0) E t isHe m L w vk (.ret k)) (hw : 0 ≤ wk) (hnb : 0 ≤ n ∧ n ≤ 4294967294) (hgb : 0 ≤ gen ∧ gen ≤ 4294967295) (hdb : 0 ≤ deadline ∧ deadline ≤ 1073741823) (hbd : Bd (S.note (startPoint wk 0 0 0 3))) :
    Calls Tryz.prog 237 #[.int .i64 tk, .bool false, .pointer (some ⟨bj, 0, none⟩), .pointer (some ⟨bh, 0, none⟩), .pointer (some ⟨bd, 0, none⟩)] w (Post E.cf (prApp E.cf R0) E t m L w ((S.note (startPoint wk 0 0 0 3), some (pushK .nodes n (.ret (.st5 k)))))) := by
  have hn := hbd.of_note
  have HD := Go.Lib.hid (Did.refl t L w)
  have HG := Go.Lib.hid hg
  have HE := Go.Lib.hid henv
  obtain ⟨ghk, chk, hvhk, hgfhk, _⟩ := id hk
  subst hvhk
  have henhk : ∀ (args : Array Value) (w : World), (callFunc ghk args).run Tryz.prog w = .ok (.enter ghk args) w := hgfhk
  have Hhk := Go.Lib.hid hk
  clear hg henv hk hgfhk
  have hb0 : Below w.heap.size w (w.alloc (.cells #[.int .i64 tk] 3)) := ((Below.refl _ _).alloc (Nat.le_refl _) _)
  have HE0 : Hid (Env L (w.alloc (.cells #[.int .i64 tk] 3)) [(w.heap.size, [.int .i64 tk]), (bj, [.pointer (some ⟨jb, 0, none⟩)]), (bh, [.int .i64 n, .int .i64 gen]), (bd, [.int .i64 deadline]), (jb, [.pointer (some ⟨E.k, 0, none⟩), .int .i64 wk, .int .i64 ticks, .int .i64 shard, .int .i64 user, .func (.func ghk) #[] chk])]) := Go.Lib.hid (Env.alloc_at HE.out (fun b hb => HG.out.new b (by first | exact hb | (simp at hb; omega))) [.int .i64 tk] 3 (b := w.heap.size) (by first | rfl | (simp; done) | (simp; omega)))
  replace HG := Go.Lib.hid (HG.out.below hb0)
  replace HE := Go.Lib.hid (HE0.out)
  replace Hhk := Go.Lib.hid (ConSim.ext E.cf (prApp E.cf R0) E t Hhk.out (below_ext hb0 t L))
  replace HD := Go.Lib.hid (HD.out.trans (below_did hb0 t L))
  clear hb0 HE0
  have q0_0 : (w.alloc (.cells #[.int .i64 tk] 3)).cell? ⟨w.heap.size, 0, none⟩ = some (.int .i64 tk) := HE.out.cell 0 0 rfl rfl
  have q1_0 : (w.alloc (.cells #[.int .i64 tk] 3)).cell? ⟨bj, 0, none⟩ = some (.pointer (some ⟨jb, 0, none⟩)) := HE.out.cell 1 0 rfl rfl
  have q2_0 : (w.alloc (.cells #[.int .i64 tk] 3)).cell? ⟨bh, 0, none⟩ = some (.int .i64 n) := HE.out.cell 2 0 rfl rfl
  have q2_1 : (w.alloc (.cells #[.int .i64 tk] 3)).cell? ⟨bh, 1, none⟩ = some (.int .i64 gen) := HE.out.cell 2 1 rfl rfl
  have q3_0 : (w.alloc (.cells #[.int .i64 tk] 3)).cell? ⟨bd, 0, none⟩ = some (.int .i64 deadline) := HE.out.cell 3 0 rfl rfl
  have q4_0 : (w.alloc (.cells #[.int .i64 tk] 3)).cell? ⟨jb, 0, none⟩ = some (.pointer (some ⟨E.k, 0, none⟩)) := HE.out.cell 4 0 rfl rfl
  have q4_1 : (w.alloc (.cells #[.int .i64 tk] 3)).cell? ⟨jb, 1, none⟩ = some (.int .i64 wk) := HE.out.cell 4 1 rfl rfl
  have q4_2 : (w.alloc (.cells #[.int .i64 tk] 3)).cell? ⟨jb, 2, none⟩ = some (.int .i64 ticks) := HE.out.cell 4 2 rfl rfl
  have q4_3 : (w.alloc (.cells #[.int .i64 tk] 3)).cell? ⟨jb, 3, none⟩ = some (.int .i64 shard) := HE.out.cell 4 3 rfl rfl
  have q4_4 : (w.alloc (.cells #[.int .i64 tk] 3)).cell? ⟨jb, 4, none⟩ = some (.int .i64 user) := HE.out.cell 4 4 rfl rfl
  have q4_5 : (w.alloc (.cells #[.int .i64 tk] 3)).cell? ⟨jb, 5, none⟩ = some (.func (.func ghk) #[] chk) := HE.out.cell 4 5 rfl rfl
  go_enter Tryz.func237, Tryz.ntmps237
  go_wp2_with fail
  generalize (w.alloc (.cells #[.int .i64 tk] 3)) = w0 at *
  refine (st_point HG.out (HE.out.sub (env' := [(jb, [.pointer (some ⟨E.k, 0, none⟩), .int .i64 wk, .int .i64 ticks, .int .i64 shard, .int .i64 user, .func (.func ghk) #[] chk])]) (by simp)) hn (fun w => start_rightE wk 3 hw (by decide) w)).mono ?_
  rintro e w1 ⟨L1, rfl, hno⟩
  clear q0_0 q1_0 q2_0 q2_1 q3_0 q4_0 q4_1 q4_2 q4_3 q4_4 q4_5
  replace HG := Go.Lib.hid (hno.good)
  replace HE := Go.Lib.hid (HE.out.ext (hno.shr.ext t))
  replace Hhk := Go.Lib.hid (ConSim.ext E.cf (prApp E.cf R0) E t Hhk.out (hno.shr.ext t))
  replace HD := Go.Lib.hid (HD.out.trans (hno.shr.did t))
  clear hno
  have q0_0 : w1.cell? ⟨w.heap.size, 0, none⟩ = some (.int .i64 tk) := HE.out.cell 0 0 rfl rfl
  have q1_0 : w1.cell? ⟨bj, 0, none⟩ = some (.pointer (some ⟨jb, 0, none⟩)) := HE.out.cell 1 0 rfl rfl
  have q2_0 : w1.cell? ⟨bh, 0, none⟩ = some (.int .i64 n) := HE.out.cell 2 0 rfl rfl
  have q2_1 : w1.cell? ⟨bh, 1, none⟩ = some (.int .i64 gen) := HE.out.cell 2 1 rfl rfl
  have q3_0 : w1.cell? ⟨bd, 0, none⟩ = some (.int .i64 deadline) := HE.out.cell 3 0 rfl rfl
  have q4_0 : w1.cell? ⟨jb, 0, none⟩ = some (.pointer (some ⟨E.k, 0, none⟩)) := HE.out.cell 4 0 rfl rfl
  have q4_1 : w1.cell? ⟨jb, 1, none⟩ = some (.int .i64 wk) := HE.out.cell 4 1 rfl rfl
  have q4_2 : w1.cell? ⟨jb, 2, none⟩ = some (.int .i64 ticks) := HE.out.cell 4 2 rfl rfl
  have q4_3 : w1.cell? ⟨jb, 3, none⟩ = some (.int .i64 shard) := HE.out.cell 4 3 rfl rfl
  have q4_4 : w1.cell? ⟨jb, 4, none⟩ = some (.int .i64 user) := HE.out.cell 4 4 rfl rfl
  have q4_5 : w1.cell? ⟨jb, 5, none⟩ = some (.func (.func ghk) #[] chk) := HE.out.cell 4 5 rfl rfl
  have HND := Go.Lib.hid (arm_nodes HG.out)
  go_wp2
  have q0_0' : ∀ d os, (Sort.grow (redrawn w1 d) os).cell? ⟨w.heap.size, 0, none⟩ = some (.int .i64 tk) := fun d os => cell_regrown q0_0 d os
  have q1_0' : ∀ d os, (Sort.grow (redrawn w1 d) os).cell? ⟨bj, 0, none⟩ = some (.pointer (some ⟨jb, 0, none⟩)) := fun d os => cell_regrown q1_0 d os
  have q2_0' : ∀ d os, (Sort.grow (redrawn w1 d) os).cell? ⟨bh, 0, none⟩ = some (.int .i64 n) := fun d os => cell_regrown q2_0 d os
  have q2_1' : ∀ d os, (Sort.grow (redrawn w1 d) os).cell? ⟨bh, 1, none⟩ = some (.int .i64 gen) := fun d os => cell_regrown q2_1 d os
  have q3_0' : ∀ d os, (Sort.grow (redrawn w1 d) os).cell? ⟨bd, 0, none⟩ = some (.int .i64 deadline) := fun d os => cell_regrown q3_0 d os
  have q4_0' : ∀ d os, (Sort.grow (redrawn w1 d) os).cell? ⟨jb, 0, none⟩ = some (.pointer (some ⟨E.k, 0, none⟩)) := fun d os => cell_regrown q4_0 d os
  have q4_1' : ∀ d os, (Sort.grow (redrawn w1 d) os).cell? ⟨jb, 1, none⟩ = some (.int .i64 wk) := fun d os => cell_regrown q4_1 d os
  have q4_2' : ∀ d os, (Sort.grow (redrawn w1 d) os).cell? ⟨jb, 2, none⟩ = some (.int .i64 ticks) := fun d os => cell_regrown q4_2 d os
  have q4_3' : ∀ d os, (Sort.grow (redrawn w1 d) os).cell? ⟨jb, 3, none⟩ = some (.int .i64 shard) := fun d os => cell_regrown q4_3 d os
  have q4_4' : ∀ d os, (Sort.grow (redrawn w1 d) os).cell? ⟨jb, 4, none⟩ = some (.int .i64 user) := fun d os => cell_regrown q4_4 d os
  have q4_5' : ∀ d os, (Sort.grow (redrawn w1 d) os).cell? ⟨jb, 5, none⟩ = some (.func (.func ghk) #[] chk) := fun d os => cell_regrown q4_5 d os
  refine wp_region_below_tail 8 (by kernel_rfl) (by kernel_rfl) ?_
  simp only [List.take_succ_cons, List.take_zero, List.drop_succ_cons, List.drop_zero]
  repeat (go_big_quiet_step (first
    | (go_at_call 57; rename_i p; exact Calls.regrown_of (HND.out _ (below_regrown w1 p.d p.os)))))
  refine wpQuiet_nil ?_
  intro w2 hw'
  obtain ⟨p, rfl⟩ := hw'
  have hb := below_regrown w1 p.d p.os
  clear q0_0' q1_0' q2_0' q2_1' q3_0' q4_0' q4_1' q4_2' q4_3' q4_4' q4_5' q0_0 q1_0 q2_0 q2_1 q3_0 q4_0 q4_1 q4_2 q4_3 q4_4 q4_5
  generalize Sort.grow (redrawn w1 p.d) p.os = w2 at *
  replace HG := Go.Lib.hid (HG.out.below hb)
  replace HE := Go.Lib.hid (HE.out.ext (below_ext hb t L1))
  replace Hhk := Go.Lib.hid (ConSim.ext E.cf (prApp E.cf R0) E t Hhk.out (below_ext hb t L1))
  replace HD := Go.Lib.hid (HD.out.trans (below_did hb t L1))
  clear hb
  have q0_0 : w2.cell? ⟨w.heap.size, 0, none⟩ = some (.int .i64 tk) := HE.out.cell 0 0 rfl rfl
  have q1_0 : w2.cell? ⟨bj, 0, none⟩ = some (.pointer (some ⟨jb, 0, none⟩)) := HE.out.cell 1 0 rfl rfl
  have q2_0 : w2.cell? ⟨bh, 0, none⟩ = some (.int .i64 n) := HE.out.cell 2 0 rfl rfl
  have q2_1 : w2.cell? ⟨bh, 1, none⟩ = some (.int .i64 gen) := HE.out.cell 2 1 rfl rfl
  have q3_0 : w2.cell? ⟨bd, 0, none⟩ = some (.int .i64 deadline) := HE.out.cell 3 0 rfl rfl
  have q4_0 : w2.cell? ⟨jb, 0, none⟩ = some (.pointer (some ⟨E.k, 0, none⟩)) := HE.out.cell 4 0 rfl rfl
  have q4_1 : w2.cell? ⟨jb, 1, none⟩ = some (.int .i64 wk) := HE.out.cell 4 1 rfl rfl
  have q4_2 : w2.cell? ⟨jb, 2, none⟩ = some (.int .i64 ticks) := HE.out.cell 4 2 rfl rfl
  have q4_3 : w2.cell? ⟨jb, 3, none⟩ = some (.int .i64 shard) := HE.out.cell 4 3 rfl rfl
  have q4_4 : w2.cell? ⟨jb, 4, none⟩ = some (.int .i64 user) := HE.out.cell 4 4 rfl rfl
  have q4_5 : w2.cell? ⟨jb, 5, none⟩ = some (.func (.func ghk) #[] chk) := HE.out.cell 4 5 rfl rfl
  have HT := Go.Lib.hid (push_nodes hR (i := n) HG.out (st5_con (bj := bj) hR (HE.out.sub (env' := [(bj, [.pointer (some ⟨jb, 0, none⟩)]), (jb, [.pointer (some ⟨E.k, 0, none⟩), .int .i64 wk, .int .i64 ticks, .int .i64 shard, .int .i64 user, .func (.func ghk) #[] chk])]) (by simp)) Hhk.out))
  go_wp2_with fail
  refine (HT.out).mono ?_
  rintro e w9 ⟨v2, L9, rfl, hd2, hg2, hc2⟩
  go_wp2
  go_ret
  exact ⟨v2, L9, rfl, HD.out.trans hd2, hg2, hc2⟩
set_option maxHeartbeats 2000000 in
theorem st4_yes (hR : RMono (prApp E.cf R0)) {m : Nat} {wk ticks shard user : Int} {vk : Value} {k : PR ρ} {L : Lab} {w : World} {S : St} {jb : Nat} {bj bh bd : Nat} {n gen deadline tk : Int} (hg : Good E L S w) (henv : Env L w [(bj, [.pointer (some ⟨jb, 0, none⟩)]), (bh, [.int .i64 n, .int .i64 gen]), (bd, [.int .i64 deadline]), (jb, [.pointer (some ⟨E.k, 0, none⟩), .int .i64 wk, .int .i64 ticks, .int .i64 shard, .int .i64 user, vk])]) (hk : ConSim E.cf (prApp E.cf R0) E t isHe m L w vk (.ret k)) (hw : 0 ≤ wk) (hnb : 0 ≤ n ∧ n ≤ 4294967294) (hgb : 0 ≤ gen ∧ gen ≤ 4294967295) (hdb : 0 ≤ deadline ∧ deadline ≤ 1073741823) :
    Calls Tryz.prog 237 #[.int .i64 tk, .bool true, .pointer (some ⟨bj, 0, none⟩), .pointer (some ⟨bh, 0, none⟩), .pointer (some ⟨bd, 0, none⟩)] w (Post E.cf (prApp E.cf R0) E t m L w ((S, some (writeK E.cf tk gen 0 n deadline (.ret (.st6 wk shard user deadline n gen tk k)))))) := by
  have HD := Go.Lib.hid (Did.refl t L w)
  have HG := Go.Lib.hid hg
  have HE := Go.Lib.hid henv
  obtain ⟨ghk, chk, hvhk, hgfhk, _⟩ := id hk
  subst hvhk
  have henhk : ∀ (args : Array Value) (w : World), (callFunc ghk args).run Tryz.prog w = .ok (.enter ghk args) w := hgfhk
  have Hhk := Go.Lib.hid hk
  clear hg henv hk hgfhk
  have henv0 := HE.out
  have hb0 : Below w.heap.size w ((w.alloc (.cells #[.int .i64 tk] 3)).alloc (.cells #[.int .i64 gen, .int .i64 0, .int .i64 n] 56)) := (((Below.refl _ _).alloc (Nat.le_refl _) _).alloc (by first | (simp; done) | (simp; omega)) _)
  have HE0 : Hid (Env L ((w.alloc (.cells #[.int .i64 tk] 3)).alloc (.cells #[.int .i64 gen, .int .i64 0, .int .i64 n] 56)) [(w.heap.size + 1, [.int .i64 gen, .int .i64 0, .int .i64 n]), (w.heap.size, [.int .i64 tk]), (bj, [.pointer (some ⟨jb, 0, none⟩)]), (bh, [.int .i64 n, .int .i64 gen]), (bd, [.int .i64 deadline]), (jb, [.pointer (some ⟨E.k, 0, none⟩), .int .i64 wk, .int .i64 ticks, .int .i64 shard, .int .i64 user, .func (.func ghk) #[] chk])]) := Go.Lib.hid (Env.alloc_at (Env.alloc_at HE.out (fun b hb => HG.out.new b (by first | exact hb | (simp at hb; omega))) [.int .i64 tk] 3 (b := w.heap.size) (by first | rfl | (simp; done) | (simp; omega))) (fun b hb => HG.out.new b (by first | exact hb | (simp at hb; omega))) [.int .i64 gen, .int .i64 0, .int .i64 n] 56 (b := w.heap.size + 1) (by first | rfl | (simp; done) | (simp; omega)))
  replace HG := Go.Lib.hid (HG.out.below hb0)
  replace HE := Go.Lib.hid (HE0.out)
  replace Hhk := Go.Lib.hid (ConSim.ext E.cf (prApp E.cf R0) E t Hhk.out (below_ext hb0 t L))
  replace HD := Go.Lib.hid (HD.out.trans (below_did hb0 t L))
  clear hb0 HE0
  have hbm : Below w.heap.size w (w.alloc (.cells #[.int .i64 tk] 3)) := ((Below.refl _ _).alloc (Nat.le_refl _) _)
  have m1_0 : (w.alloc (.cells #[.int .i64 tk] 3)).cell? ⟨w.heap.size, 0, none⟩ = some (.int .i64 tk) := by go_simp
  have m2_0 : (w.alloc (.cells #[.int .i64 tk] 3)).cell? ⟨bj, 0, none⟩ = some (.pointer (some ⟨jb, 0, none⟩)) := below_cell hbm (henv0.cell 0 0 rfl rfl)
  have m3_0 : (w.alloc (.cells #[.int .i64 tk] 3)).cell? ⟨bh, 0, none⟩ = some (.int .i64 n) := below_cell hbm (henv0.cell 1 0 rfl rfl)
  have m3_1 : (w.alloc (.cells #[.int .i64 tk] 3)).cell? ⟨bh, 1, none⟩ = some (.int .i64 gen) := below_cell hbm (henv0.cell 1 1 rfl rfl)
  have m4_0 : (w.alloc (.cells #[.int .i64 tk] 3)).cell? ⟨bd, 0, none⟩ = some (.int .i64 deadline) := below_cell hbm (henv0.cell 2 0 rfl rfl)
  have m5_0 : (w.alloc (.cells #[.int .i64 tk] 3)).cell? ⟨jb, 0, none⟩ = some (.pointer (some ⟨E.k, 0, none⟩)) := below_cell hbm (henv0.cell 3 0 rfl rfl)
  have m5_1 : (w.alloc (.cells #[.int .i64 tk] 3)).cell? ⟨jb, 1, none⟩ = some (.int .i64 wk) := below_cell hbm (henv0.cell 3 1 rfl rfl)
  have m5_2 : (w.alloc (.cells #[.int .i64 tk] 3)).cell? ⟨jb, 2, none⟩ = some (.int .i64 ticks) := below_cell hbm (henv0.cell 3 2 rfl rfl)
  have m5_3 : (w.alloc (.cells #[.int .i64 tk] 3)).cell? ⟨jb, 3, none⟩ = some (.int .i64 shard) := below_cell hbm (henv0.cell 3 3 rfl rfl)
  have m5_4 : (w.alloc (.cells #[.int .i64 tk] 3)).cell? ⟨jb, 4, none⟩ = some (.int .i64 user) := below_cell hbm (henv0.cell 3 4 rfl rfl)
  have m5_5 : (w.alloc (.cells #[.int .i64 tk] 3)).cell? ⟨jb, 5, none⟩ = some (.func (.func ghk) #[] chk) := below_cell hbm (henv0.cell 3 5 rfl rfl)
  clear hbm henv0
  have q0_0 : ((w.alloc (.cells #[.int .i64 tk] 3)).alloc (.cells #[.int .i64 gen, .int .i64 0, .int .i64 n] 56)).cell? ⟨w.heap.size + 1, 0, none⟩ = some (.int .i64 gen) := HE.out.cell 0 0 rfl rfl
  have q0_1 : ((w.alloc (.cells #[.int .i64 tk] 3)).alloc (.cells #[.int .i64 gen, .int .i64 0, .int .i64 n] 56)).cell? ⟨w.heap.size + 1, 1, none⟩ = some (.int .i64 0) := HE.out.cell 0 1 rfl rfl
  have q0_2 : ((w.alloc (.cells #[.int .i64 tk] 3)).alloc (.cells #[.int .i64 gen, .int .i64 0, .int .i64 n] 56)).cell? ⟨w.heap.size + 1, 2, none⟩ = some (.int .i64 n) := HE.out.cell 0 2 rfl rfl
  have q1_0 : ((w.alloc (.cells #[.int .i64 tk] 3)).alloc (.cells #[.int .i64 gen, .int .i64 0, .int .i64 n] 56)).cell? ⟨w.heap.size, 0, none⟩ = some (.int .i64 tk) := HE.out.cell 1 0 rfl rfl
  have q2_0 : ((w.alloc (.cells #[.int .i64 tk] 3)).alloc (.cells #[.int .i64 gen, .int .i64 0, .int .i64 n] 56)).cell? ⟨bj, 0, none⟩ = some (.pointer (some ⟨jb, 0, none⟩)) := HE.out.cell 2 0 rfl rfl
  have q3_0 : ((w.alloc (.cells #[.int .i64 tk] 3)).alloc (.cells #[.int .i64 gen, .int .i64 0, .int .i64 n] 56)).cell? ⟨bh, 0, none⟩ = some (.int .i64 n) := HE.out.cell 3 0 rfl rfl
  have q3_1 : ((w.alloc (.cells #[.int .i64 tk] 3)).alloc (.cells #[.int .i64 gen, .int .i64 0, .int .i64 n] 56)).cell? ⟨bh, 1, none⟩ = some (.int .i64 gen) := HE.out.cell 3 1 rfl rfl
  have q4_0 : ((w.alloc (.cells #[.int .i64 tk] 3)).alloc (.cells #[.int .i64 gen, .int .i64 0, .int .i64 n] 56)).cell? ⟨bd, 0, none⟩ = some (.int .i64 deadline) := HE.out.cell 4 0 rfl rfl
  have q5_0 : ((w.alloc (.cells #[.int .i64 tk] 3)).alloc (.cells #[.int .i64 gen, .int .i64 0, .int .i64 n] 56)).cell? ⟨jb, 0, none⟩ = some (.pointer (some ⟨E.k, 0, none⟩)) := HE.out.cell 5 0 rfl rfl
  have q5_1 : ((w.alloc (.cells #[.int .i64 tk] 3)).alloc (.cells #[.int .i64 gen, .int .i64 0, .int .i64 n] 56)).cell? ⟨jb, 1, none⟩ = some (.int .i64 wk) := HE.out.cell 5 1 rfl rfl
  have q5_2 : ((w.alloc (.cells #[.int .i64 tk] 3)).alloc (.cells #[.int .i64 gen, .int .i64 0, .int .i64 n] 56)).cell? ⟨jb, 2, none⟩ = some (.int .i64 ticks) := HE.out.cell 5 2 rfl rfl
  have q5_3 : ((w.alloc (.cells #[.int .i64 tk] 3)).alloc (.cells #[.int .i64 gen, .int .i64 0, .int .i64 n] 56)).cell? ⟨jb, 3, none⟩ = some (.int .i64 shard) := HE.out.cell 5 3 rfl rfl
  have q5_4 : ((w.alloc (.cells #[.int .i64 tk] 3)).alloc (.cells #[.int .i64 gen, .int .i64 0, .int .i64 n] 56)).cell? ⟨jb, 4, none⟩ = some (.int .i64 user) := HE.out.cell 5 4 rfl rfl
  have q5_5 : ((w.alloc (.cells #[.int .i64 tk] 3)).alloc (.cells #[.int .i64 gen, .int .i64 0, .int .i64 n] 56)).cell? ⟨jb, 5, none⟩ = some (.func (.func ghk) #[] chk) := HE.out.cell 5 5 rfl rfl
  go_enter Tryz.func237, Tryz.ntmps237
  go_wp2
  clear m1_0 m2_0 m3_0 m3_1 m4_0 m5_0 m5_1 m5_2 m5_3 m5_4 m5_5
  generalize ((w.alloc (.cells #[.int .i64 tk] 3)).alloc (.cells #[.int .i64 gen, .int .i64 0, .int .i64 n] 56)) = w0 at *
  have q0_0' : ∀ d os, (Sort.grow (redrawn w0 d) os).cell? ⟨w.heap.size + 1, 0, none⟩ = some (.int .i64 gen) := fun d os => cell_regrown q0_0 d os
  have q0_1' : ∀ d os, (Sort.grow (redrawn w0 d) os).cell? ⟨w.heap.size + 1, 1, none⟩ = some (.int .i64 0) := fun d os => cell_regrown q0_1 d os
  have q0_2' : ∀ d os, (Sort.grow (redrawn w0 d) os).cell? ⟨w.heap.size + 1, 2, none⟩ = some (.int .i64 n) := fun d os => cell_regrown q0_2 d os
  have q1_0' : ∀ d os, (Sort.grow (redrawn w0 d) os).cell? ⟨w.heap.size, 0, none⟩ = some (.int .i64 tk) := fun d os => cell_regrown q1_0 d os
  have q2_0' : ∀ d os, (Sort.grow (redrawn w0 d) os).cell? ⟨bj, 0, none⟩ = some (.pointer (some ⟨jb, 0, none⟩)) := fun d os => cell_regrown q2_0 d os
  have q3_0' : ∀ d os, (Sort.grow (redrawn w0 d) os).cell? ⟨bh, 0, none⟩ = some (.int .i64 n) := fun d os => cell_regrown q3_0 d os
  have q3_1' : ∀ d os, (Sort.grow (redrawn w0 d) os).cell? ⟨bh, 1, none⟩ = some (.int .i64 gen) := fun d os => cell_regrown q3_1 d os
  have q4_0' : ∀ d os, (Sort.grow (redrawn w0 d) os).cell? ⟨bd, 0, none⟩ = some (.int .i64 deadline) := fun d os => cell_regrown q4_0 d os
  have q5_0' : ∀ d os, (Sort.grow (redrawn w0 d) os).cell? ⟨jb, 0, none⟩ = some (.pointer (some ⟨E.k, 0, none⟩)) := fun d os => cell_regrown q5_0 d os
  have q5_1' : ∀ d os, (Sort.grow (redrawn w0 d) os).cell? ⟨jb, 1, none⟩ = some (.int .i64 wk) := fun d os => cell_regrown q5_1 d os
  have q5_2' : ∀ d os, (Sort.grow (redrawn w0 d) os).cell? ⟨jb, 2, none⟩ = some (.int .i64 ticks) := fun d os => cell_regrown q5_2 d os
  have q5_3' : ∀ d os, (Sort.grow (redrawn w0 d) os).cell? ⟨jb, 3, none⟩ = some (.int .i64 shard) := fun d os => cell_regrown q5_3 d os
  have q5_4' : ∀ d os, (Sort.grow (redrawn w0 d) os).cell? ⟨jb, 4, none⟩ = some (.int .i64 user) := fun d os => cell_regrown q5_4 d os
  have q5_5' : ∀ d os, (Sort.grow (redrawn w0 d) os).cell? ⟨jb, 5, none⟩ = some (.func (.func ghk) #[] chk) := fun d os => cell_regrown q5_5 d os
  refine wp_region_below_tail 8 (by kernel_rfl) (by kernel_rfl) ?_
  simp only [List.take_succ_cons, List.take_zero, List.drop_succ_cons, List.drop_zero]
  repeat (go_big_quiet_step (first
    | fail))
  refine wpQuiet_nil ?_
  intro w1 hw'
  obtain ⟨p, rfl⟩ := hw'
  have hb := below_regrown w0 p.d p.os
  clear q0_0' q0_1' q0_2' q1_0' q2_0' q3_0' q3_1' q4_0' q5_0' q5_1' q5_2' q5_3' q5_4' q5_5' q0_0 q0_1 q0_2 q1_0 q2_0 q3_0 q3_1 q4_0 q5_0 q5_1 q5_2 q5_3 q5_4 q5_5
  generalize Sort.grow (redrawn w0 p.d) p.os = w1 at *
  replace HG := Go.Lib.hid (HG.out.below hb)
  replace HE := Go.Lib.hid (HE.out.ext (below_ext hb t L))
  replace Hhk := Go.Lib.hid (ConSim.ext E.cf (prApp E.cf R0) E t Hhk.out (below_ext hb t L))
  replace HD := Go.Lib.hid (HD.out.trans (below_did hb t L))
  clear hb
  have q0_0 : w1.cell? ⟨w.heap.size + 1, 0, none⟩ = some (.int .i64 gen) := HE.out.cell 0 0 rfl rfl
  have q0_1 : w1.cell? ⟨w.heap.size + 1, 1, none⟩ = some (.int .i64 0) := HE.out.cell 0 1 rfl rfl
  have q0_2 : w1.cell? ⟨w.heap.size + 1, 2, none⟩ = some (.int .i64 n) := HE.out.cell 0 2 rfl rfl
  have q1_0 : w1.cell? ⟨w.heap.size, 0, none⟩ = some (.int .i64 tk) := HE.out.cell 1 0 rfl rfl
  have q2_0 : w1.cell? ⟨bj, 0, none⟩ = some (.pointer (some ⟨jb, 0, none⟩)) := HE.out.cell 2 0 rfl rfl
  have q3_0 : w1.cell? ⟨bh, 0, none⟩ = some (.int .i64 n) := HE.out.cell 3 0 rfl rfl
  have q3_1 : w1.cell? ⟨bh, 1, none⟩ = some (.int .i64 gen) := HE.out.cell 3 1 rfl rfl
  have q4_0 : w1.cell? ⟨bd, 0, none⟩ = some (.int .i64 deadline) := HE.out.cell 4 0 rfl rfl
  have q5_0 : w1.cell? ⟨jb, 0, none⟩ = some (.pointer (some ⟨E.k, 0, none⟩)) := HE.out.cell 5 0 rfl rfl
  have q5_1 : w1.cell? ⟨jb, 1, none⟩ = some (.int .i64 wk) := HE.out.cell 5 1 rfl rfl
  have q5_2 : w1.cell? ⟨jb, 2, none⟩ = some (.int .i64 ticks) := HE.out.cell 5 2 rfl rfl
  have q5_3 : w1.cell? ⟨jb, 3, none⟩ = some (.int .i64 shard) := HE.out.cell 5 3 rfl rfl
  have q5_4 : w1.cell? ⟨jb, 4, none⟩ = some (.int .i64 user) := HE.out.cell 5 4 rfl rfl
  have q5_5 : w1.cell? ⟨jb, 5, none⟩ = some (.func (.func ghk) #[] chk) := HE.out.cell 5 5 rfl rfl
  have HT := Go.Lib.hid (write_at hR (tt := tk) (g := gen) (v := 0) (nd := n) (d := deadline) HG.out (by omega) (by omega) (by omega) (st6_con (tk := tk) (bt := w.heap.size) hR (HE.out.sub (env' := [(bj, [.pointer (some ⟨jb, 0, none⟩)]), (bh, [.int .i64 n, .int .i64 gen]), (w.heap.size, [.int .i64 tk]), (bd, [.int .i64 deadline]), (jb, [.pointer (some ⟨E.k, 0, none⟩), .int .i64 wk, .int .i64 ticks, .int .i64 shard, .int .i64 user, .func (.func ghk) #[] chk])]) (by simp)) Hhk.out hw hnb hgb hdb))
  go_wp2_with fail
  refine (HT.out).mono ?_
  rintro e w9 ⟨v2, L9, rfl, hd2, hg2, hc2⟩
  go_wp2
  go_ret
  exact ⟨v2, L9, rfl, HD.out.trans hd2, hg2, hc2⟩
theorem st4_con (hR : RMono (prApp E.cf R0)) {m : Nat} {wk ticks shard user : Int} {vk : Value} {k : PR ρ} {L : Lab} {w : World} {jb : Nat} {bj bh bd : Nat} {n gen deadline : Int} (henv : Env L w [(bj, [.pointer (some ⟨jb, 0, none⟩)]), (bh, [.int .i64 n, .int .i64 gen]), (bd, [.int .i64 deadline]), (jb, [.pointer (some ⟨E.k, 0, none⟩), .int .i64 wk, .int .i64 ticks, .int .i64 shard, .int .i64 user, vk])]) (hk : ConSim E.cf (prApp E.cf R0) E t isHe m L w vk (.ret k)) (hw : 0 ≤ wk) (hnb : 0 ≤ n ∧ n ≤ 4294967294) (hgb : 0 ≤ gen ∧ gen ≤ 4294967295) (hdb : 0 ≤ deadline ∧ deadline ≤ 1073741823) :
    ConSim E.cf (prApp E.cf R0) E t isPop m L w (.func (.func 237) #[] #[.pointer (some ⟨bj, 0, none⟩), .pointer (some ⟨bh, 0, none⟩), .pointer (some ⟨bd, 0, none⟩)]) (.ret (.st4 wk shard user deadline n gen k)) := by
  refine ⟨_, _, rfl, enters_of Tryz.func237 (by kernel_rfl) rfl, ?_⟩
  intro a L' w' S ha hx hg hbd
  cases a with
  | pop tk ok =>
    show Calls _ _ #[_, _, _, _, _] _ _
    cases ok with
    | true => exact st4_yes hR hg (henv.ext hx) (ConSim.ext E.cf (prApp E.cf R0) E t hk hx) hw hnb hgb hdb
    | false => exact st4_no hR hg (henv.ext hx) (ConSim.ext E.cf (prApp E.cf R0) E t hk hx) hw hnb hgb hdb hbd
  | _ => exact absurd ha (by simp [isPop])
set_option maxHeartbeats 2000000 in
theorem st_ticket (hR : RMono (prApp E.cf R0)) {m : Nat} {wk ticks shard user : Int} {vk : Value} {k : PR ρ} {L : Lab} {w : World} {S : St} {jb : Nat} {n gen deadline : Int} (hg : Good E L S w) (henv : Env L w [(jb, [.pointer (some ⟨E.k, 0, none⟩), .int .i64 wk, .int .i64 ticks, .int .i64 shard, .int .i64 user, vk])]) (hk : ConSim E.cf (prApp E.cf R0) E t isHe m L w vk (.ret k)) (hw : 0 ≤ wk) (hnb : 0 ≤ n ∧ n ≤ 4294967294) (hgb : 0 ≤ gen ∧ gen ≤ 4294967295) (hdb : 0 ≤ deadline ∧ deadline ≤ 1073741823) :
    Calls Tryz.prog 188 #[.pointer (some ⟨jb, 0, none⟩), .agg #[.int .i64 n, .int .i64 gen], .int .i64 deadline] w (Post E.cf (prApp E.cf R0) E t m L w ((S, some (popK .tickets (.ret (.st4 wk shard user deadline n gen k)))))) := by
  have HD := Go.Lib.hid (Did.refl t L w)
  have HG := Go.Lib.hid hg
  have HE := Go.Lib.hid henv
  obtain ⟨ghk, chk, hvhk, hgfhk, _⟩ := id hk
  subst hvhk
  have henhk : ∀ (args : Array Value) (w : World), (callFunc ghk args).run Tryz.prog w = .ok (.enter ghk args) w := hgfhk
  have Hhk := Go.Lib.hid hk
  clear hg henv hk hgfhk
  have hb0 : Below w.heap.size w (((w.alloc (.cells #[.pointer (some ⟨jb, 0, none⟩)] 143)).alloc (.cells #[.int .i64 n, .int .i64 gen] 46)).alloc (.cells #[.int .i64 deadline] 3)) := ((((Below.refl _ _).alloc (Nat.le_refl _) _).alloc (by first | (simp; done) | (simp; omega)) _).alloc (by first | (simp; done) | (simp; omega)) _)
  have HE0 : Hid (Env L (((w.alloc (.cells #[.pointer (some ⟨jb, 0, none⟩)] 143)).alloc (.cells #[.int .i64 n, .int .i64 gen] 46)).alloc (.cells #[.int .i64 deadline] 3)) [(w.heap.size + 1 + 1, [.int .i64 deadline]), (w.heap.size + 1, [.int .i64 n, .int .i64 gen]), (w.heap.size, [.pointer (some ⟨jb, 0, none⟩)]), (jb, [.pointer (some ⟨E.k, 0, none⟩), .int .i64 wk, .int .i64 ticks, .int .i64 shard, .int .i64 user, .func (.func ghk) #[] chk])]) := Go.Lib.hid (Env.alloc_at (Env.alloc_at (Env.alloc_at HE.out (fun b hb => HG.out.new b (by first | exact hb | (simp at hb; omega))) [.pointer (some ⟨jb, 0, none⟩)] 143 (b := w.heap.size) (by first | rfl | (simp; done) | (simp; omega))) (fun b hb => HG.out.new b (by first | exact hb | (simp at hb; omega))) [.int .i64 n, .int .i64 gen] 46 (b := w.heap.size + 1) (by first | rfl | (simp; done) | (simp; omega))) (fun b hb => HG.out.new b (by first | exact hb | (simp at hb; omega))) [.int .i64 deadline] 3 (b := w.heap.size + 1 + 1) (by first | rfl | (simp; done) | (simp; omega)))
  replace HG := Go.Lib.hid (HG.out.below hb0)
  replace HE := Go.Lib.hid (HE0.out)
  replace Hhk := Go.Lib.hid (ConSim.ext E.cf (prApp E.cf R0) E t Hhk.out (below_ext hb0 t L))
  replace HD := Go.Lib.hid (HD.out.trans (below_did hb0 t L))
  clear hb0 HE0
  have q0_0 : (((w.alloc (.cells #[.pointer (some ⟨jb, 0, none⟩)] 143)).alloc (.cells #[.int .i64 n, .int .i64 gen] 46)).alloc (.cells #[.int .i64 deadline] 3)).cell? ⟨w.heap.size + 1 + 1, 0, none⟩ = some (.int .i64 deadline) := HE.out.cell 0 0 rfl rfl
  have q1_0 : (((w.alloc (.cells #[.pointer (some ⟨jb, 0, none⟩)] 143)).alloc (.cells #[.int .i64 n, .int .i64 gen] 46)).alloc (.cells #[.int .i64 deadline] 3)).cell? ⟨w.heap.size + 1, 0, none⟩ = some (.int .i64 n) := HE.out.cell 1 0 rfl rfl
  have q1_1 : (((w.alloc (.cells #[.pointer (some ⟨jb, 0, none⟩)] 143)).alloc (.cells #[.int .i64 n, .int .i64 gen] 46)).alloc (.cells #[.int .i64 deadline] 3)).cell? ⟨w.heap.size + 1, 1, none⟩ = some (.int .i64 gen) := HE.out.cell 1 1 rfl rfl
  have q2_0 : (((w.alloc (.cells #[.pointer (some ⟨jb, 0, none⟩)] 143)).alloc (.cells #[.int .i64 n, .int .i64 gen] 46)).alloc (.cells #[.int .i64 deadline] 3)).cell? ⟨w.heap.size, 0, none⟩ = some (.pointer (some ⟨jb, 0, none⟩)) := HE.out.cell 2 0 rfl rfl
  have q3_0 : (((w.alloc (.cells #[.pointer (some ⟨jb, 0, none⟩)] 143)).alloc (.cells #[.int .i64 n, .int .i64 gen] 46)).alloc (.cells #[.int .i64 deadline] 3)).cell? ⟨jb, 0, none⟩ = some (.pointer (some ⟨E.k, 0, none⟩)) := HE.out.cell 3 0 rfl rfl
  have q3_1 : (((w.alloc (.cells #[.pointer (some ⟨jb, 0, none⟩)] 143)).alloc (.cells #[.int .i64 n, .int .i64 gen] 46)).alloc (.cells #[.int .i64 deadline] 3)).cell? ⟨jb, 1, none⟩ = some (.int .i64 wk) := HE.out.cell 3 1 rfl rfl
  have q3_2 : (((w.alloc (.cells #[.pointer (some ⟨jb, 0, none⟩)] 143)).alloc (.cells #[.int .i64 n, .int .i64 gen] 46)).alloc (.cells #[.int .i64 deadline] 3)).cell? ⟨jb, 2, none⟩ = some (.int .i64 ticks) := HE.out.cell 3 2 rfl rfl
  have q3_3 : (((w.alloc (.cells #[.pointer (some ⟨jb, 0, none⟩)] 143)).alloc (.cells #[.int .i64 n, .int .i64 gen] 46)).alloc (.cells #[.int .i64 deadline] 3)).cell? ⟨jb, 3, none⟩ = some (.int .i64 shard) := HE.out.cell 3 3 rfl rfl
  have q3_4 : (((w.alloc (.cells #[.pointer (some ⟨jb, 0, none⟩)] 143)).alloc (.cells #[.int .i64 n, .int .i64 gen] 46)).alloc (.cells #[.int .i64 deadline] 3)).cell? ⟨jb, 4, none⟩ = some (.int .i64 user) := HE.out.cell 3 4 rfl rfl
  have q3_5 : (((w.alloc (.cells #[.pointer (some ⟨jb, 0, none⟩)] 143)).alloc (.cells #[.int .i64 n, .int .i64 gen] 46)).alloc (.cells #[.int .i64 deadline] 3)).cell? ⟨jb, 5, none⟩ = some (.func (.func ghk) #[] chk) := HE.out.cell 3 5 rfl rfl
  go_enter Tryz.func188, Tryz.ntmps188
  go_wp2_with fail
  generalize (((w.alloc (.cells #[.pointer (some ⟨jb, 0, none⟩)] 143)).alloc (.cells #[.int .i64 n, .int .i64 gen] 46)).alloc (.cells #[.int .i64 deadline] 3)) = w0 at *
  refine (core_Tickets HG.out).mono ?_
  rintro e w1 ⟨rfl, hb⟩
  clear q0_0 q1_0 q1_1 q2_0 q3_0 q3_1 q3_2 q3_3 q3_4 q3_5
  replace HG := Go.Lib.hid (HG.out.below hb)
  replace HE := Go.Lib.hid (HE.out.ext (below_ext hb t L))
  replace Hhk := Go.Lib.hid (ConSim.ext E.cf (prApp E.cf R0) E t Hhk.out (below_ext hb t L))
  replace HD := Go.Lib.hid (HD.out.trans (below_did hb t L))
  clear hb
  have q0_0 : w1.cell? ⟨w.heap.size + 1 + 1, 0, none⟩ = some (.int .i64 deadline) := HE.out.cell 0 0 rfl rfl
  have q1_0 : w1.cell? ⟨w.heap.size + 1, 0, none⟩ = some (.int .i64 n) := HE.out.cell 1 0 rfl rfl
  have q1_1 : w1.cell? ⟨w.heap.size + 1, 1, none⟩ = some (.int .i64 gen) := HE.out.cell 1 1 rfl rfl
  have q2_0 : w1.cell? ⟨w.heap.size, 0, none⟩ = some (.pointer (some ⟨jb, 0, none⟩)) := HE.out.cell 2 0 rfl rfl
  have q3_0 : w1.cell? ⟨jb, 0, none⟩ = some (.pointer (some ⟨E.k, 0, none⟩)) := HE.out.cell 3 0 rfl rfl
  have q3_1 : w1.cell? ⟨jb, 1, none⟩ = some (.int .i64 wk) := HE.out.cell 3 1 rfl rfl
  have q3_2 : w1.cell? ⟨jb, 2, none⟩ = some (.int .i64 ticks) := HE.out.cell 3 2 rfl rfl
  have q3_3 : w1.cell? ⟨jb, 3, none⟩ = some (.int .i64 shard) := HE.out.cell 3 3 rfl rfl
  have q3_4 : w1.cell? ⟨jb, 4, none⟩ = some (.int .i64 user) := HE.out.cell 3 4 rfl rfl
  have q3_5 : w1.cell? ⟨jb, 5, none⟩ = some (.func (.func ghk) #[] chk) := HE.out.cell 3 5 rfl rfl
  have HT := Go.Lib.hid (pop_tickets hR HG.out (st4_con (n := n) (gen := gen) hR (HE.out.sub (env' := [(w.heap.size, [.pointer (some ⟨jb, 0, none⟩)]), (w.heap.size + 1, [.int .i64 n, .int .i64 gen]), (w.heap.size + 1 + 1, [.int .i64 deadline]), (jb, [.pointer (some ⟨E.k, 0, none⟩), .int .i64 wk, .int .i64 ticks, .int .i64 shard, .int .i64 user, .func (.func ghk) #[] chk])]) (by simp)) Hhk.out hw hnb hgb hdb))
  go_wp2_with fail
  refine (HT.out).mono ?_
  rintro e w9 ⟨v2, L9, rfl, hd2, hg2, hc2⟩
  go_wp2
  go_ret
  exact ⟨v2, L9, rfl, HD.out.trans hd2, hg2, hc2⟩
set_option maxHeartbeats 2000000 in
theorem st3_call (hR : RMono (prApp E.cf R0)) {m : Nat} {wk ticks shard user : Int} {vk : Value} {k : PR ρ} {L : Lab} {w : World} {S : St} {jb : Nat} {bj bn bd x : Nat} {n deadline : Int} (hg : Good E L S w) (henv : Env L w [(bj, [.pointer (some ⟨jb, 0, none⟩)]), (bn, [.int .i64 n]), (bd, [.int .i64 deadline]), (jb, [.pointer (some ⟨E.k, 0, none⟩), .int .i64 wk, .int .i64 ticks, .int .i64 shard, .int .i64 user, vk])]) (hk : ConSim E.cf (prApp E.cf R0) E t isHe m L w vk (.ret k)) (hw : 0 ≤ wk) (hnb : 0 ≤ n ∧ n ≤ 4294967294) (hdb : 0 ≤ deadline ∧ deadline ≤ 1073741823) (hx64 : x < 18446744073709551616) (hbd : Bd (if part x 32 32 = 4294967295 then prApp E.cf R0 k (.he 0 0 5) (S.note (startPoint wk 0 0 0 5)) else (S, some (popK .tickets (.ret (.st4 wk shard user deadline n ((part x 32 32 : Nat) + 1) k))))).1) :
    Calls Tryz.prog 187 #[.int .u64 x, .pointer (some ⟨bj, 0, none⟩), .pointer (some ⟨bn, 0, none⟩), .pointer (some ⟨bd, 0, none⟩)] w (Post E.cf (prApp E.cf R0) E t m L w (if part x 32 32 = 4294967295 then prApp E.cf R0 k (.he 0 0 5) (S.note (startPoint wk 0 0 0 5)) else (S, some (popK .tickets (.ret (.st4 wk shard user deadline n ((part x 32 32 : Nat) + 1) k)))))) := by
  have hgl : part x 32 32 < 4294967296 := Nat.mod_lt _ (by decide)
  have HSO := Go.Lib.hid (fun w => of_StateOf x w hx64)
  generalize part x 32 32 = gn at *
  generalize part x 2 30 = tm at *
  generalize part x 0 2 = sm at *
  have hfield : ∀ (a b c : Int) (w : World), (Instr.field 105 (.agg #[.int .i64 a, .int .i64 b, .int .i64 c]) 0).run Tryz.prog w = .ok (.int .i64 a) w := fun _ _ _ _ => by kernel_rfl
  by_cases hge : gn = 4294967295
  · rw [if_pos hge] at hbd ⊢
    have hd : decide ((gn : Int) = 4294967295) = true := by simp; omega
    have hd2 : ((gn : Int) == 4294967295) = true := by simp; omega
    clear hge
    have HD := Go.Lib.hid (Did.refl t L w)
    have HG := Go.Lib.hid hg
    have HE := Go.Lib.hid henv
    obtain ⟨ghk, chk, hvhk, hgfhk, _⟩ := id hk
    subst hvhk
    have henhk : ∀ (args : Array Value) (w : World), (callFunc ghk args).run Tryz.prog w = .ok (.enter ghk args) w := hgfhk
    have Hhk := Go.Lib.hid hk
    clear hg henv hk hgfhk
    have q0_0 : w.cell? ⟨bj, 0, none⟩ = some (.pointer (some ⟨jb, 0, none⟩)) := HE.out.cell 0 0 rfl rfl
    have q1_0 : w.cell? ⟨bn, 0, none⟩ = some (.int .i64 n) := HE.out.cell 1 0 rfl rfl
    have q2_0 : w.cell? ⟨bd, 0, none⟩ = some (.int .i64 deadline) := HE.out.cell 2 0 rfl rfl
    have q3_0 : w.cell? ⟨jb, 0, none⟩ = some (.pointer (some ⟨E.k, 0, none⟩)) := HE.out.cell 3 0 rfl rfl
    have q3_1 : w.cell? ⟨jb, 1, none⟩ = some (.int .i64 wk) := HE.out.cell 3 1 rfl rfl
    have q3_2 : w.cell? ⟨jb, 2, none⟩ = some (.int .i64 ticks) := HE.out.cell 3 2 rfl rfl
    have q3_3 : w.cell? ⟨jb, 3, none⟩ = some (.int .i64 shard) := HE.out.cell 3 3 rfl rfl
    have q3_4 : w.cell? ⟨jb, 4, none⟩ = some (.int .i64 user) := HE.out.cell 3 4 rfl rfl
    have q3_5 : w.cell? ⟨jb, 5, none⟩ = some (.func (.func ghk) #[] chk) := HE.out.cell 3 5 rfl rfl
    go_enter Tryz.func187, Tryz.ntmps187
    go_wp2_with fail
    refine (HSO.out _).mono ?_
    rintro e w1 ⟨rfl, hb⟩
    clear q0_0 q1_0 q2_0 q3_0 q3_1 q3_2 q3_3 q3_4 q3_5
    replace HG := Go.Lib.hid (HG.out.below hb)
    replace HE := Go.Lib.hid (HE.out.ext (below_ext hb t L))
    replace Hhk := Go.Lib.hid (ConSim.ext E.cf (prApp E.cf R0) E t Hhk.out (below_ext hb t L))
    replace HD := Go.Lib.hid (HD.out.trans (below_did hb t L))
    clear hb
    have q0_0 : w1.cell? ⟨bj, 0, none⟩ = some (.pointer (some ⟨jb, 0, none⟩)) := HE.out.cell 0 0 rfl rfl
    have q1_0 : w1.cell? ⟨bn, 0, none⟩ = some (.int .i64 n) := HE.out.cell 1 0 rfl rfl
    have q2_0 : w1.cell? ⟨bd, 0, none⟩ = some (.int .i64 deadline) := HE.out.cell 2 0 rfl rfl
    have q3_0 : w1.cell? ⟨jb, 0, none⟩ = some (.pointer (some ⟨E.k, 0, none⟩)) := HE.out.cell 3 0 rfl rfl
    have q3_1 : w1.cell? ⟨jb, 1, none⟩ = some (.int .i64 wk) := HE.out.cell 3 1 rfl rfl
    have q3_2 : w1.cell? ⟨jb, 2, none⟩ = some (.int .i64 ticks) := HE.out.cell 3 2 rfl rfl
    have q3_3 : w1.cell? ⟨jb, 3, none⟩ = some (.int .i64 shard) := HE.out.cell 3 3 rfl rfl
    have q3_4 : w1.cell? ⟨jb, 4, none⟩ = some (.int .i64 user) := HE.out.cell 3 4 rfl rfl
    have q3_5 : w1.cell? ⟨jb, 5, none⟩ = some (.func (.func ghk) #[] chk) := HE.out.cell 3 5 rfl rfl
    go_wp2_with fail
    refine (st_fail (er := 5) hR HG.out (HE.out.sub (env' := [(jb, [.pointer (some ⟨E.k, 0, none⟩), .int .i64 wk, .int .i64 ticks, .int .i64 shard, .int .i64 user, .func (.func ghk) #[] chk])]) (by simp)) Hhk.out hw (by decide) hbd).mono ?_
    rintro e w9 ⟨v2, L9, rfl, hd2, hg2, hc2⟩
    go_wp2
    go_ret
    exact ⟨v2, L9, rfl, HD.out.trans hd2, hg2, hc2⟩
  · rw [if_neg hge] at hbd ⊢
    have hd : decide ((gn : Int) = 4294967295) = false := by simp; omega
    have hd2 : ((gn : Int) == 4294967295) = false := by simp; omega
    have hgb : 0 ≤ (gn : Int) + 1 ∧ (gn : Int) + 1 ≤ 4294967295 := by omega
    have hb1 : (gn : Int) ≤ 4294967294 := by omega
    clear hge hbd
    have HD := Go.Lib.hid (Did.refl t L w)
    have HG := Go.Lib.hid hg
    have HE := Go.Lib.hid henv
    obtain ⟨ghk, chk, hvhk, hgfhk, _⟩ := id hk
    subst hvhk
    have henhk : ∀ (args : Array Value) (w : World), (callFunc ghk args).run Tryz.prog w = .ok (.enter ghk args) w := hgfhk
    have Hhk := Go.Lib.hid hk
    clear hg henv hk hgfhk
    have q0_0 : w.cell? ⟨bj, 0, none⟩ = some (.pointer (some ⟨jb, 0, none⟩)) := HE.out.cell 0 0 rfl rfl
    have q1_0 : w.cell? ⟨bn, 0, none⟩ = some (.int .i64 n) := HE.out.cell 1 0 rfl rfl
    have q2_0 : w.cell? ⟨bd, 0, none⟩ = some (.int .i64 deadline) := HE.out.cell 2 0 rfl rfl
    have q3_0 : w.cell? ⟨jb, 0, none⟩ = some (.pointer (some ⟨E.k, 0, none⟩)) := HE.out.cell 3 0 rfl rfl
    have q3_1 : w.cell? ⟨jb, 1, none⟩ = some (.int .i64 wk) := HE.out.cell 3 1 rfl rfl
    have q3_2 : w.cell? ⟨jb, 2, none⟩ = some (.int .i64 ticks) := HE.out.cell 3 2 rfl rfl
    have q3_3 : w.cell? ⟨jb, 3, none⟩ = some (.int .i64 shard) := HE.out.cell 3 3 rfl rfl
    have q3_4 : w.cell? ⟨jb, 4, none⟩ = some (.int .i64 user) := HE.out.cell 3 4 rfl rfl
    have q3_5 : w.cell? ⟨jb, 5, none⟩ = some (.func (.func ghk) #[] chk) := HE.out.cell 3 5 rfl rfl
    go_enter Tryz.func187, Tryz.ntmps187
    go_wp2_with fail
    refine (HSO.out _).mono ?_
    rintro e w1 ⟨rfl, hb⟩
    clear q0_0 q1_0 q2_0 q3_0 q3_1 q3_2 q3_3 q3_4 q3_5
    replace HG := Go.Lib.hid (HG.out.below hb)
    replace HE := Go.Lib.hid (HE.out.ext (below_ext hb t L))
    replace Hhk := Go.Lib.hid (ConSim.ext E.cf (prApp E.cf R0) E t Hhk.out (below_ext hb t L))
    replace HD := Go.Lib.hid (HD.out.trans (below_did hb t L))
    clear hb
    have q0_0 : w1.cell? ⟨bj, 0, none⟩ = some (.pointer (some ⟨jb, 0, none⟩)) := HE.out.cell 0 0 rfl rfl
    have q1_0 : w1.cell? ⟨bn, 0, none⟩ = some (.int .i64 n) := HE.out.cell 1 0 rfl rfl
    have q2_0 : w1.cell? ⟨bd, 0, none⟩ = some (.int .i64 deadline) := HE.out.cell 2 0 rfl rfl
    have q3_0 : w1.cell? ⟨jb, 0, none⟩ = some (.pointer (some ⟨E.k, 0, none⟩)) := HE.out.cell 3 0 rfl rfl
    have q3_1 : w1.cell? ⟨jb, 1, none⟩ = some (.int .i64 wk) := HE.out.cell 3 1 rfl rfl
    have q3_2 : w1.cell? ⟨jb, 2, none⟩ = some (.int .i64 ticks) := HE.out.cell 3 2 rfl rfl
    have q3_3 : w1.cell? ⟨jb, 3, none⟩ = some (.int .i64 shard) := HE.out.cell 3 3 rfl rfl
    have q3_4 : w1.cell? ⟨jb, 4, none⟩ = some (.int .i64 user) := HE.out.cell 3 4 rfl rfl
    have q3_5 : w1.cell? ⟨jb, 5, none⟩ = some (.func (.func ghk) #[] chk) := HE.out.cell 3 5 rfl rfl
    go_wp2_with fail
    refine (st_ticket (n := n) (gen := (gn : Int) + 1) (deadline := deadline) hR HG.out (HE.out.sub (env' := [(jb, [.pointer (some ⟨E.k, 0, none⟩), .int .i64 wk, .int .i64 ticks, .int .i64 shard, .int .i64 user, .func (.func ghk) #[] chk])]) (by simp)) Hhk.out hw hnb hgb hdb).mono ?_
    rintro e w9 ⟨v2, L9, rfl, hd2, hg2, hc2⟩
    go_wp2
    go_ret
    exact ⟨v2, L9, rfl, HD.out.trans hd2, hg2, hc2⟩
theorem st3_con (hR : RMono (prApp E.cf R0)) {m : Nat} {wk ticks shard user : Int} {vk : Value} {k : PR ρ} {L : Lab} {w : World} {jb : Nat} {bj bn bd : Nat} {n deadline : Int} (henv : Env L w [(bj, [.pointer (some ⟨jb, 0, none⟩)]), (bn, [.int .i64 n]), (bd, [.int .i64 deadline]), (jb, [.pointer (some ⟨E.k, 0, none⟩), .int .i64 wk, .int .i64 ticks, .int .i64 shard, .int .i64 user, vk])]) (hk : ConSim E.cf (prApp E.cf R0) E t isHe m L w vk (.ret k)) (hw : 0 ≤ wk) (hnb : 0 ≤ n ∧ n ≤ 4294967294) (hdb : 0 ≤ deadline ∧ deadline ≤ 1073741823) :
    ConSim E.cf (prApp E.cf R0) E t isW m L w (.func (.func 187) #[] #[.pointer (some ⟨bj, 0, none⟩), .pointer (some ⟨bn, 0, none⟩), .pointer (some ⟨bd, 0, none⟩)]) (.ret (.st3 wk shard user deadline n k)) := by
  refine ⟨_, _, rfl, enters_of Tryz.func187 (by kernel_rfl) rfl, ?_⟩
  intro a L' w' S ha hx hg hbd
  cases a with
  | w x =>
    show Calls _ _ #[_, _, _, _] _ _
    exact st3_call hR hg (henv.ext hx) (ConSim.ext E.cf (prApp E.cf R0) E t hk hx) hw hnb hdb ha hbd
  | _ => exact absurd ha (by simp [isW])
set_option maxHeartbeats 2000000 in
theorem st2_no (hR : RMono (prApp E.cf R0)) {m : Nat} {wk ticks shard user : Int} {vk : Value} {k : PR ρ} {L : Lab} {w : World} {S : St} {jb : Nat} {bj bd : Nat} {n deadline : Int} (hg : Good E L S w) (henv : Env L w [(bj, [.pointer (some ⟨jb, 0, none⟩)]), (bd, [.int .i64 deadline]), (jb, [.pointer (some ⟨E.k, 0, none⟩), .int .i64 wk, .int .i64 ticks, .int .i64 shard, .int .i64 user, vk])]) (hk : ConSim E.cf (prApp E.cf R0) E t isHe m L w vk (.ret k)) (hw : 0 ≤ wk) (hdb : 0 ≤ deadline ∧ deadline ≤ 1073741823) (hbd : Bd (prApp E.cf R0 k (.he 0 0 3) (S.note (startPoint wk 0 0 0 3))).1) :
    Calls Tryz.prog 186 #[.int .i64 n, .bool false, .pointer (some ⟨bj, 0, none⟩), .pointer (some ⟨bd, 0, none⟩)] w (Post E.cf (prApp E.cf R0) E t m L w (prApp E.cf R0 k (.he 0 0 3) (S.note (startPoint wk 0 0 0 3)))) := by
  have HD := Go.Lib.hid (Did.refl t L w)
  have HG := Go.Lib.hid hg
  have HE := Go.Lib.hid henv
  obtain ⟨ghk, chk, hvhk, hgfhk, _⟩ := id hk
  subst hvhk
  have henhk : ∀ (args : Array Value) (w : World), (callFunc ghk args).run Tryz.prog w = .ok (.enter ghk args) w := hgfhk
  have Hhk := Go.Lib.hid hk
  clear hg henv hk hgfhk
  have hb0 : Below w.heap.size w (w.alloc (.cells #[.int .i64 n] 3)) := ((Below.refl _ _).alloc (Nat.le_refl _) _)
  have HE0 : Hid (Env L (w.alloc (.cells #[.int .i64 n] 3)) [(w.heap.size, [.int .i64 n]), (bj, [.pointer (some ⟨jb, 0, none⟩)]), (bd, [.int .i64 deadline]), (jb, [.pointer (some ⟨E.k, 0, none⟩), .int .i64 wk, .int .i64 ticks, .int .i64 shard, .int .i64 user, .func (.func ghk) #[] chk])]) := Go.Lib.hid (Env.alloc_at HE.out (fun b hb => HG.out.new b (by first | exact hb | (simp at hb; omega))) [.int .i64 n] 3 (b := w.heap.size) (by first | rfl | (simp; done) | (simp; omega)))
  replace HG := Go.Lib.hid (HG.out.below hb0)
  replace HE := Go.Lib.hid (HE0.out)
  replace Hhk := Go.Lib.hid (ConSim.ext E.cf (prApp E.cf R0) E t Hhk.out (below_ext hb0 t L))
  replace HD := Go.Lib.hid (HD.out.trans (below_did hb0 t L))
  clear hb0 HE0
  have q0_0 : (w.alloc (.cells #[.int .i64 n] 3)).cell? ⟨w.heap.size, 0, none⟩ = some (.int .i64 n) := HE.out.cell 0 0 rfl rfl
  have q1_0 : (w.alloc (.cells #[.int .i64 n] 3)).cell? ⟨bj, 0, none⟩ = some (.pointer (some ⟨jb, 0, none⟩)) := HE.out.cell 1 0 rfl rfl
  have q2_0 : (w.alloc (.cells #[.int .i64 n] 3)).cell? ⟨bd, 0, none⟩ = some (.int .i64 deadline) := HE.out.cell 2 0 rfl rfl
  have q3_0 : (w.alloc (.cells #[.int .i64 n] 3)).cell? ⟨jb, 0, none⟩ = some (.pointer (some ⟨E.k, 0, none⟩)) := HE.out.cell 3 0 rfl rfl
  have q3_1 : (w.alloc (.cells #[.int .i64 n] 3)).cell? ⟨jb, 1, none⟩ = some (.int .i64 wk) := HE.out.cell 3 1 rfl rfl
  have q3_2 : (w.alloc (.cells #[.int .i64 n] 3)).cell? ⟨jb, 2, none⟩ = some (.int .i64 ticks) := HE.out.cell 3 2 rfl rfl
  have q3_3 : (w.alloc (.cells #[.int .i64 n] 3)).cell? ⟨jb, 3, none⟩ = some (.int .i64 shard) := HE.out.cell 3 3 rfl rfl
  have q3_4 : (w.alloc (.cells #[.int .i64 n] 3)).cell? ⟨jb, 4, none⟩ = some (.int .i64 user) := HE.out.cell 3 4 rfl rfl
  have q3_5 : (w.alloc (.cells #[.int .i64 n] 3)).cell? ⟨jb, 5, none⟩ = some (.func (.func ghk) #[] chk) := HE.out.cell 3 5 rfl rfl
  go_enter Tryz.func186, Tryz.ntmps186
  go_wp2_with fail
  generalize (w.alloc (.cells #[.int .i64 n] 3)) = w0 at *
  refine (st_fail (er := 3) hR HG.out (HE.out.sub (env' := [(jb, [.pointer (some ⟨E.k, 0, none⟩), .int .i64 wk, .int .i64 ticks, .int .i64 shard, .int .i64 user, .func (.func ghk) #[] chk])]) (by simp)) Hhk.out hw (by decide) hbd).mono ?_
  rintro e w9 ⟨v2, L9, rfl, hd2, hg2, hc2⟩
  go_wp2
  go_ret
  exact ⟨v2, L9, rfl, HD.out.trans hd2, hg2, hc2⟩
set_option maxHeartbeats 2000000 in
theorem st2_yes (hR : RMono (prApp E.cf R0)) {m : Nat} {wk ticks shard user : Int} {vk : Value} {k : PR ρ} {L : Lab} {w : World} {S : St} {jb : Nat} {bj bd : Nat} {n deadline : Int} (hg : Good E L S w) (henv : Env L w [(bj, [.pointer (some ⟨jb, 0, none⟩)]), (bd, [.int .i64 deadline]), (jb, [.pointer (some ⟨E.k, 0, none⟩), .int .i64 wk, .int .i64 ticks, .int .i64 shard, .int .i64 user, vk])]) (hk : ConSim E.cf (prApp E.cf R0) E t isHe m L w vk (.ret k)) (hw : 0 ≤ wk) (hdb : 0 ≤ deadline ∧ deadline ≤ 1073741823) (hnb : 0 ≤ n ∧ n ≤ 4294967294) :
    Calls Tryz.prog 186 #[.int .i64 n, .bool true, .pointer (some ⟨bj, 0, none⟩), .pointer (some ⟨bd, 0, none⟩)] w (Post E.cf (prApp E.cf R0) E t m L w ((S, some (.load (E.cf.state n) (.ret (.st3 wk shard user deadline n k)))))) := by
  have HD := Go.Lib.hid (Did.refl t L w)
  have HG := Go.Lib.hid hg
  have HE := Go.Lib.hid henv
  obtain ⟨ghk, chk, hvhk, hgfhk, _⟩ := id hk
  subst hvhk
  have henhk : ∀ (args : Array Value) (w : World), (callFunc ghk args).run Tryz.prog w = .ok (.enter ghk args) w := hgfhk
  have Hhk := Go.Lib.hid hk
  clear hg henv hk hgfhk
  have hb0 : Below w.heap.size w (w.alloc (.cells #[.int .i64 n] 3)) := ((Below.refl _ _).alloc (Nat.le_refl _) _)
  have HE0 : Hid (Env L (w.alloc (.cells #[.int .i64 n] 3)) [(w.heap.size, [.int .i64 n]), (bj, [.pointer (some ⟨jb, 0, none⟩)]), (bd, [.int .i64 deadline]), (jb, [.pointer (some ⟨E.k, 0, none⟩), .int .i64 wk, .int .i64 ticks, .int .i64 shard, .int .i64 user, .func (.func ghk) #[] chk])]) := Go.Lib.hid (Env.alloc_at HE.out (fun b hb => HG.out.new b (by first | exact hb | (simp at hb; omega))) [.int .i64 n] 3 (b := w.heap.size) (by first | rfl | (simp; done) | (simp; omega)))
  replace HG := Go.Lib.hid (HG.out.below hb0)
  replace HE := Go.Lib.hid (HE0.out)
  replace Hhk := Go.Lib.hid (ConSim.ext E.cf (prApp E.cf R0) E t Hhk.out (below_ext hb0 t L))
  replace HD := Go.Lib.hid (HD.out.trans (below_did hb0 t L))
  clear hb0 HE0
  have q0_0 : (w.alloc (.cells #[.int .i64 n] 3)).cell? ⟨w.heap.size, 0, none⟩ = some (.int .i64 n) := HE.out.cell 0 0 rfl rfl
  have q1_0 : (w.alloc (.cells #[.int .i64 n] 3)).cell? ⟨bj, 0, none⟩ = some (.pointer (some ⟨jb, 0, none⟩)) := HE.out.cell 1 0 rfl rfl
  have q2_0 : (w.alloc (.cells #[.int .i64 n] 3)).cell? ⟨bd, 0, none⟩ = some (.int .i64 deadline) := HE.out.cell 2 0 rfl rfl
  have q3_0 : (w.alloc (.cells #[.int .i64 n] 3)).cell? ⟨jb, 0, none⟩ = some (.pointer (some ⟨E.k, 0, none⟩)) := HE.out.cell 3 0 rfl rfl
  have q3_1 : (w.alloc (.cells #[.int .i64 n] 3)).cell? ⟨jb, 1, none⟩ = some (.int .i64 wk) := HE.out.cell 3 1 rfl rfl
  have q3_2 : (w.alloc (.cells #[.int .i64 n] 3)).cell? ⟨jb, 2, none⟩ = some (.int .i64 ticks) := HE.out.cell 3 2 rfl rfl
  have q3_3 : (w.alloc (.cells #[.int .i64 n] 3)).cell? ⟨jb, 3, none⟩ = some (.int .i64 shard) := HE.out.cell 3 3 rfl rfl
  have q3_4 : (w.alloc (.cells #[.int .i64 n] 3)).cell? ⟨jb, 4, none⟩ = some (.int .i64 user) := HE.out.cell 3 4 rfl rfl
  have q3_5 : (w.alloc (.cells #[.int .i64 n] 3)).cell? ⟨jb, 5, none⟩ = some (.func (.func ghk) #[] chk) := HE.out.cell 3 5 rfl rfl
  go_enter Tryz.func186, Tryz.ntmps186
  go_wp2
  generalize (w.alloc (.cells #[.int .i64 n] 3)) = w0 at *
  have HCE := Go.Lib.hid (arm_cells HG.out)
  have HPL := Go.Lib.hid (arm_plan HG.out)
  have HSA := Go.Lib.hid (arm_state HG.out n)
  have q0_0' : ∀ d os, (Sort.grow (redrawn w0 d) os).cell? ⟨w.heap.size, 0, none⟩ = some (.int .i64 n) := fun d os => cell_regrown q0_0 d os
  have q1_0' : ∀ d os, (Sort.grow (redrawn w0 d) os).cell? ⟨bj, 0, none⟩ = some (.pointer (some ⟨jb, 0, none⟩)) := fun d os => cell_regrown q1_0 d os
  have q2_0' : ∀ d os, (Sort.grow (redrawn w0 d) os).cell? ⟨bd, 0, none⟩ = some (.int .i64 deadline) := fun d os => cell_regrown q2_0 d os
  have q3_0' : ∀ d os, (Sort.grow (redrawn w0 d) os).cell? ⟨jb, 0, none⟩ = some (.pointer (some ⟨E.k, 0, none⟩)) := fun d os => cell_regrown q3_0 d os
  have q3_1' : ∀ d os, (Sort.grow (redrawn w0 d) os).cell? ⟨jb, 1, none⟩ = some (.int .i64 wk) := fun d os => cell_regrown q3_1 d os
  have q3_2' : ∀ d os, (Sort.grow (redrawn w0 d) os).cell? ⟨jb, 2, none⟩ = some (.int .i64 ticks) := fun d os => cell_regrown q3_2 d os
  have q3_3' : ∀ d os, (Sort.grow (redrawn w0 d) os).cell? ⟨jb, 3, none⟩ = some (.int .i64 shard) := fun d os => cell_regrown q3_3 d os
  have q3_4' : ∀ d os, (Sort.grow (redrawn w0 d) os).cell? ⟨jb, 4, none⟩ = some (.int .i64 user) := fun d os => cell_regrown q3_4 d os
  have q3_5' : ∀ d os, (Sort.grow (redrawn w0 d) os).cell? ⟨jb, 5, none⟩ = some (.func (.func ghk) #[] chk) := fun d os => cell_regrown q3_5 d os
  refine wp_region_below_tail 13 (by kernel_rfl) (by kernel_rfl) ?_
  simp only [List.take_succ_cons, List.take_zero, List.drop_succ_cons, List.drop_zero]
  repeat (go_big_quiet_step (first
    | (go_at_call 44; rename_i p; exact Calls.regrown_of (HCE.out _ (below_regrown w0 p.d p.os)))
    | (go_at_call 47; rename_i p; exact Calls.regrown_of (HPL.out _ (below_regrown w0 p.d p.os)))
    | (go_at_call 139; rename_i p; exact Calls.regrown_of (HSA.out _ (below_regrown w0 p.d p.os)))))
  refine wpQuiet_nil ?_
  intro w1 hw'
  obtain ⟨p, rfl⟩ := hw'
  have hb := below_regrown w0 p.d p.os
  clear q0_0' q1_0' q2_0' q3_0' q3_1' q3_2' q3_3' q3_4' q3_5' q0_0 q1_0 q2_0 q3_0 q3_1 q3_2 q3_3 q3_4 q3_5
  generalize Sort.grow (redrawn w0 p.d) p.os = w1 at *
  replace HG := Go.Lib.hid (HG.out.below hb)
  replace HE := Go.Lib.hid (HE.out.ext (below_ext hb t L))
  replace Hhk := Go.Lib.hid (ConSim.ext E.cf (prApp E.cf R0) E t Hhk.out (below_ext hb t L))
  replace HD := Go.Lib.hid (HD.out.trans (below_did hb t L))
  clear hb
  have q0_0 : w1.cell? ⟨w.heap.size, 0, none⟩ = some (.int .i64 n) := HE.out.cell 0 0 rfl rfl
  have q1_0 : w1.cell? ⟨bj, 0, none⟩ = some (.pointer (some ⟨jb, 0, none⟩)) := HE.out.cell 1 0 rfl rfl
  have q2_0 : w1.cell? ⟨bd, 0, none⟩ = some (.int .i64 deadline) := HE.out.cell 2 0 rfl rfl
  have q3_0 : w1.cell? ⟨jb, 0, none⟩ = some (.pointer (some ⟨E.k, 0, none⟩)) := HE.out.cell 3 0 rfl rfl
  have q3_1 : w1.cell? ⟨jb, 1, none⟩ = some (.int .i64 wk) := HE.out.cell 3 1 rfl rfl
  have q3_2 : w1.cell? ⟨jb, 2, none⟩ = some (.int .i64 ticks) := HE.out.cell 3 2 rfl rfl
  have q3_3 : w1.cell? ⟨jb, 3, none⟩ = some (.int .i64 shard) := HE.out.cell 3 3 rfl rfl
  have q3_4 : w1.cell? ⟨jb, 4, none⟩ = some (.int .i64 user) := HE.out.cell 3 4 rfl rfl
  have q3_5 : w1.cell? ⟨jb, 5, none⟩ = some (.func (.func ghk) #[] chk) := HE.out.cell 3 5 rfl rfl
  have HT := Go.Lib.hid (load_at hR (i := E.cf.state n) HG.out (st3_con (n := n) hR (HE.out.sub (env' := [(bj, [.pointer (some ⟨jb, 0, none⟩)]), (w.heap.size, [.int .i64 n]), (bd, [.int .i64 deadline]), (jb, [.pointer (some ⟨E.k, 0, none⟩), .int .i64 wk, .int .i64 ticks, .int .i64 shard, .int .i64 user, .func (.func ghk) #[] chk])]) (by simp)) Hhk.out hw hnb hdb))
  go_wp2_with fail
  refine (HT.out).mono ?_
  rintro e w9 ⟨v2, L9, rfl, hd2, hg2, hc2⟩
  go_wp2
  go_ret
  exact ⟨v2, L9, rfl, HD.out.trans hd2, hg2, hc2⟩
theorem st2_con (hR : RMono (prApp E.cf R0)) {m : Nat} {wk ticks shard user : Int} {vk : Value} {k : PR ρ} {L : Lab} {w : World} {jb : Nat} {bj bd : Nat} {deadline : Int} (henv : Env L w [(bj, [.pointer (some ⟨jb, 0, none⟩)]), (bd, [.int .i64 deadline]), (jb, [.pointer (some ⟨E.k, 0, none⟩), .int .i64 wk, .int .i64 ticks, .int .i64 shard, .int .i64 user, vk])]) (hk : ConSim E.cf (prApp E.cf R0) E t isHe m L w vk (.ret k)) (hw : 0 ≤ wk) (hdb : 0 ≤ deadline ∧ deadline ≤ 1073741823) :
    ConSim E.cf (prApp E.cf R0) E t isPop m L w (.func (.func 186) #[] #[.pointer (some ⟨bj, 0, none⟩), .pointer (some ⟨bd, 0, none⟩)]) (.ret (.st2 wk shard user deadline k)) := by
  refine ⟨_, _, rfl, enters_of Tryz.func186 (by kernel_rfl) rfl, ?_⟩
  intro a L' w' S ha hx hg hbd
  cases a with
  | pop n ok =>
    show Calls _ _ #[_, _, _, _] _ _
    have hbd' : Bd (if n < 0 ∧ ok = true then (S.burst, none) else if ok then (S, some (.load (E.cf.state n) (.ret (.st3 wk shard user deadline n k)))) else prApp E.cf R0 k (.he 0 0 3) (S.note (startPoint wk 0 0 0 3))).1 := hbd
    show Calls _ _ _ _ (Post E.cf (prApp E.cf R0) E t m L' w' (if n < 0 ∧ ok = true then (S.burst, none) else if ok then (S, some (.load (E.cf.state n) (.ret (.st3 wk shard user deadline n k)))) else prApp E.cf R0 k (.he 0 0 3) (S.note (startPoint wk 0 0 0 3))))
    cases ok with
    | true =>
      by_cases hn : n < 0
      · rw [if_pos ⟨hn, rfl⟩] at hbd'
        exact (St.burst_no hbd').elim
      · rw [if_neg (fun h => hn h.1)]
        exact st2_yes hR hg (henv.ext hx) (ConSim.ext E.cf (prApp E.cf R0) E t hk hx) hw hdb ⟨by omega, ha.2⟩
    | false =>
      rw [if_neg (by simp)] at hbd' ⊢
      exact st2_no hR hg (henv.ext hx) (ConSim.ext E.cf (prApp E.cf R0) E t hk hx) hw hdb hbd'
  | _ => exact absurd ha (by simp [isPop])
set_option maxHeartbeats 2000000 in
theorem st_node (hR : RMono (prApp E.cf R0)) {m : Nat} {wk ticks shard user : Int} {vk : Value} {k : PR ρ} {L : Lab} {w : World} {S : St} {jb : Nat} {deadline : Int} (hg : Good E L S w) (henv : Env L w [(jb, [.pointer (some ⟨E.k, 0, none⟩), .int .i64 wk, .int .i64 ticks, .int .i64 shard, .int .i64 user, vk])]) (hk : ConSim E.cf (prApp E.cf R0) E t isHe m L w vk (.ret k)) (hw : 0 ≤ wk) (hdb : 0 ≤ deadline ∧ deadline ≤ 1073741823) :
    Calls Tryz.prog 93 #[.pointer (some ⟨jb, 0, none⟩), .int .i64 deadline] w (Post E.cf (prApp E.cf R0) E t m L w ((S, some (popK .nodes (.ret (.st2 wk shard user deadline k)))))) := by
  have HD := Go.Lib.hid (Did.refl t L w)
  have HG := Go.Lib.hid hg
  have HE := Go.Lib.hid henv
  obtain ⟨ghk, chk, hvhk, hgfhk, _⟩ := id hk
  subst hvhk
  have henhk : ∀ (args : Array Value) (w : World), (callFunc ghk args).run Tryz.prog w = .ok (.enter ghk args) w := hgfhk
  have Hhk := Go.Lib.hid hk
  clear hg henv hk hgfhk
  have hb0 : Below w.heap.size w ((w.alloc (.cells #[.pointer (some ⟨jb, 0, none⟩)] 143)).alloc (.cells #[.int .i64 deadline] 3)) := (((Below.refl _ _).alloc (Nat.le_refl _) _).alloc (by first | (simp; done) | (simp; omega)) _)
  have HE0 : Hid (Env L ((w.alloc (.cells #[.pointer (some ⟨jb, 0, none⟩)] 143)).alloc (.cells #[.int .i64 deadline] 3)) [(w.heap.size + 1, [.int .i64 deadline]), (w.heap.size, [.pointer (some ⟨jb, 0, none⟩)]), (jb, [.pointer (some ⟨E.k, 0, none⟩), .int .i64 wk, .int .i64 ticks, .int .i64 shard, .int .i64 user, .func (.func ghk) #[] chk])]) := Go.Lib.hid (Env.alloc_at (Env.alloc_at HE.out (fun b hb => HG.out.new b (by first | exact hb | (simp at hb; omega))) [.pointer (some ⟨jb, 0, none⟩)] 143 (b := w.heap.size) (by first | rfl | (simp; done) | (simp; omega))) (fun b hb => HG.out.new b (by first | exact hb | (simp at hb; omega))) [.int .i64 deadline] 3 (b := w.heap.size + 1) (by first | rfl | (simp; done) | (simp; omega)))
  replace HG := Go.Lib.hid (HG.out.below hb0)
  replace HE := Go.Lib.hid (HE0.out)
  replace Hhk := Go.Lib.hid (ConSim.ext E.cf (prApp E.cf R0) E t Hhk.out (below_ext hb0 t L))
  replace HD := Go.Lib.hid (HD.out.trans (below_did hb0 t L))
  clear hb0 HE0
  have q0_0 : ((w.alloc (.cells #[.pointer (some ⟨jb, 0, none⟩)] 143)).alloc (.cells #[.int .i64 deadline] 3)).cell? ⟨w.heap.size + 1, 0, none⟩ = some (.int .i64 deadline) := HE.out.cell 0 0 rfl rfl
  have q1_0 : ((w.alloc (.cells #[.pointer (some ⟨jb, 0, none⟩)] 143)).alloc (.cells #[.int .i64 deadline] 3)).cell? ⟨w.heap.size, 0, none⟩ = some (.pointer (some ⟨jb, 0, none⟩)) := HE.out.cell 1 0 rfl rfl
  have q2_0 : ((w.alloc (.cells #[.pointer (some ⟨jb, 0, none⟩)] 143)).alloc (.cells #[.int .i64 deadline] 3)).cell? ⟨jb, 0, none⟩ = some (.pointer (some ⟨E.k, 0, none⟩)) := HE.out.cell 2 0 rfl rfl
  have q2_1 : ((w.alloc (.cells #[.pointer (some ⟨jb, 0, none⟩)] 143)).alloc (.cells #[.int .i64 deadline] 3)).cell? ⟨jb, 1, none⟩ = some (.int .i64 wk) := HE.out.cell 2 1 rfl rfl
  have q2_2 : ((w.alloc (.cells #[.pointer (some ⟨jb, 0, none⟩)] 143)).alloc (.cells #[.int .i64 deadline] 3)).cell? ⟨jb, 2, none⟩ = some (.int .i64 ticks) := HE.out.cell 2 2 rfl rfl
  have q2_3 : ((w.alloc (.cells #[.pointer (some ⟨jb, 0, none⟩)] 143)).alloc (.cells #[.int .i64 deadline] 3)).cell? ⟨jb, 3, none⟩ = some (.int .i64 shard) := HE.out.cell 2 3 rfl rfl
  have q2_4 : ((w.alloc (.cells #[.pointer (some ⟨jb, 0, none⟩)] 143)).alloc (.cells #[.int .i64 deadline] 3)).cell? ⟨jb, 4, none⟩ = some (.int .i64 user) := HE.out.cell 2 4 rfl rfl
  have q2_5 : ((w.alloc (.cells #[.pointer (some ⟨jb, 0, none⟩)] 143)).alloc (.cells #[.int .i64 deadline] 3)).cell? ⟨jb, 5, none⟩ = some (.func (.func ghk) #[] chk) := HE.out.cell 2 5 rfl rfl
  go_enter Tryz.func93, Tryz.ntmps93
  go_wp2_with fail
  generalize ((w.alloc (.cells #[.pointer (some ⟨jb, 0, none⟩)] 143)).alloc (.cells #[.int .i64 deadline] 3)) = w0 at *
  refine (core_Nodes HG.out).mono ?_
  rintro e w1 ⟨rfl, hb⟩
  clear q0_0 q1_0 q2_0 q2_1 q2_2 q2_3 q2_4 q2_5
  replace HG := Go.Lib.hid (HG.out.below hb)
  replace HE := Go.Lib.hid (HE.out.ext (below_ext hb t L))
  replace Hhk := Go.Lib.hid (ConSim.ext E.cf (prApp E.cf R0) E t Hhk.out (below_ext hb t L))
  replace HD := Go.Lib.hid (HD.out.trans (below_did hb t L))
  clear hb
  have q0_0 : w1.cell? ⟨w.heap.size + 1, 0, none⟩ = some (.int .i64 deadline) := HE.out.cell 0 0 rfl rfl
  have q1_0 : w1.cell? ⟨w.heap.size, 0, none⟩ = some (.pointer (some ⟨jb, 0, none⟩)) := HE.out.cell 1 0 rfl rfl
  have q2_0 : w1.cell? ⟨jb, 0, none⟩ = some (.pointer (some ⟨E.k, 0, none⟩)) := HE.out.cell 2 0 rfl rfl
  have q2_1 : w1.cell? ⟨jb, 1, none⟩ = some (.int .i64 wk) := HE.out.cell 2 1 rfl rfl
  have q2_2 : w1.cell? ⟨jb, 2, none⟩ = some (.int .i64 ticks) := HE.out.cell 2 2 rfl rfl
  have q2_3 : w1.cell? ⟨jb, 3, none⟩ = some (.int .i64 shard) := HE.out.cell 2 3 rfl rfl
  have q2_4 : w1.cell? ⟨jb, 4, none⟩ = some (.int .i64 user) := HE.out.cell 2 4 rfl rfl
  have q2_5 : w1.cell? ⟨jb, 5, none⟩ = some (.func (.func ghk) #[] chk) := HE.out.cell 2 5 rfl rfl
  have HT := Go.Lib.hid (pop_nodes hR HG.out (st2_con hR (HE.out.sub (env' := [(w.heap.size, [.pointer (some ⟨jb, 0, none⟩)]), (w.heap.size + 1, [.int .i64 deadline]), (jb, [.pointer (some ⟨E.k, 0, none⟩), .int .i64 wk, .int .i64 ticks, .int .i64 shard, .int .i64 user, .func (.func ghk) #[] chk])]) (by simp)) Hhk.out hw hdb))
  go_wp2_with fail
  refine (HT.out).mono ?_
  rintro e w9 ⟨v2, L9, rfl, hd2, hg2, hc2⟩
  go_wp2
  go_ret
  exact ⟨v2, L9, rfl, HD.out.trans hd2, hg2, hc2⟩
set_option maxHeartbeats 2000000 in
theorem st0_call (hR : RMono (prApp E.cf R0)) {m : Nat} {wk ticks shard user : Int} {vk : Value} {k : PR ρ} {L : Lab} {w : World} {S : St} {jb : Nat} {bj : Nat} (hg : Good E L S w) (henv : Env L w [(bj, [.pointer (some ⟨jb, 0, none⟩)]), (jb, [.pointer (some ⟨E.k, 0, none⟩), .int .i64 wk, .int .i64 ticks, .int .i64 shard, .int .i64 user, vk])]) (hk : ConSim E.cf (prApp E.cf R0) E t isHe m L w vk (.ret k)) (hw : 0 ≤ wk) (hbd : Bd (prApp E.cf R0 k (.he 0 0 1) (S.note (startPoint wk 0 0 0 1))).1) :
    Calls Tryz.prog 89 #[.pointer (some ⟨bj, 0, none⟩)] w (Post E.cf (prApp E.cf R0) E t m L w (prApp E.cf R0 k (.he 0 0 1) (S.note (startPoint wk 0 0 0 1)))) := by
  have HD := Go.Lib.hid (Did.refl t L w)
  have HG := Go.Lib.hid hg
  have HE := Go.Lib.hid henv
  obtain ⟨ghk, chk, hvhk, hgfhk, _⟩ := id hk
  subst hvhk
  have henhk : ∀ (args : Array Value) (w : World), (callFunc ghk args).run Tryz.prog w = .ok (.enter ghk args) w := hgfhk
  have Hhk := Go.Lib.hid hk
  clear hg henv hk hgfhk
  have q0_0 : w.cell? ⟨bj, 0, none⟩ = some (.pointer (some ⟨jb, 0, none⟩)) := HE.out.cell 0 0 rfl rfl
  have q1_0 : w.cell? ⟨jb, 0, none⟩ = some (.pointer (some ⟨E.k, 0, none⟩)) := HE.out.cell 1 0 rfl rfl
  have q1_1 : w.cell? ⟨jb, 1, none⟩ = some (.int .i64 wk) := HE.out.cell 1 1 rfl rfl
  have q1_2 : w.cell? ⟨jb, 2, none⟩ = some (.int .i64 ticks) := HE.out.cell 1 2 rfl rfl
  have q1_3 : w.cell? ⟨jb, 3, none⟩ = some (.int .i64 shard) := HE.out.cell 1 3 rfl rfl
  have q1_4 : w.cell? ⟨jb, 4, none⟩ = some (.int .i64 user) := HE.out.cell 1 4 rfl rfl
  have q1_5 : w.cell? ⟨jb, 5, none⟩ = some (.func (.func ghk) #[] chk) := HE.out.cell 1 5 rfl rfl
  go_enter Tryz.func89, Tryz.ntmps89
  go_wp2_with fail
  refine (st_fail (er := 1) hR HG.out (HE.out.sub (env' := [(jb, [.pointer (some ⟨E.k, 0, none⟩), .int .i64 wk, .int .i64 ticks, .int .i64 shard, .int .i64 user, .func (.func ghk) #[] chk])]) (by simp)) Hhk.out hw (by decide) hbd).mono ?_
  rintro e w9 ⟨v2, L9, rfl, hd2, hg2, hc2⟩
  go_wp2
  go_ret
  exact ⟨v2, L9, rfl, HD.out.trans hd2, hg2, hc2⟩
theorem st0_con (hR : RMono (prApp E.cf R0)) {m : Nat} {wk ticks shard user : Int} {vk : Value} {k : PR ρ} {L : Lab} {w : World} {jb : Nat} {bj : Nat} (henv : Env L w [(bj, [.pointer (some ⟨jb, 0, none⟩)]), (jb, [.pointer (some ⟨E.k, 0, none⟩), .int .i64 wk, .int .i64 ticks, .int .i64 shard, .int .i64 user, vk])]) (hk : ConSim E.cf (prApp E.cf R0) E t isHe m L w vk (.ret k)) (hw : 0 ≤ wk) :
    ConSim E.cf (prApp E.cf R0) E t isU m L w (.func (.func 89) #[] #[.pointer (some ⟨bj, 0, none⟩)]) (.ret (.st0 wk k)) := by
  refine ⟨_, _, rfl, enters_of Tryz.func89 (by kernel_rfl) rfl, ?_⟩
  intro a L' w' S ha hx hg hbd
  cases a with
  | u =>
    show Calls _ _ #[_] _ _
    exact st0_call hR hg (henv.ext hx) (ConSim.ext E.cf (prApp E.cf R0) E t hk hx) hw hbd
  | _ => exact absurd ha (by simp [isU])
set_option maxHeartbeats 2000000 in
theorem st1_call (hR : RMono (prApp E.cf R0)) {m : Nat} {wk ticks shard user : Int} {vk : Value} {k : PR ρ} {L : Lab} {w : World} {S : St} {jb : Nat} {bj bk x : Nat} (hg : Good E L S w) (henv : Env L w [(bk, [.int .i64 ticks]), (bj, [.pointer (some ⟨jb, 0, none⟩)]), (jb, [.pointer (some ⟨E.k, 0, none⟩), .int .i64 wk, .int .i64 ticks, .int .i64 shard, .int .i64 user, vk])]) (hk : ConSim E.cf (prApp E.cf R0) E t isHe m L w vk (.ret k)) (hw : 0 ≤ wk) (htk : 0 ≤ ticks) (htu : ticks < 9223372036854775808) (hbd : Bd (if 1073741823 < x then (S.burst, none) else if 1073741823 - toI x < ticks then prApp E.cf R0 k (.he 0 0 2) (S.note (startPoint wk 0 0 0 2)) else (S, some (popK .nodes (.ret (.st2 wk shard user (toI x + ticks) k))))).1) :
    Calls Tryz.prog 92 #[.int .u64 x, .pointer (some ⟨bk, 0, none⟩), .pointer (some ⟨bj, 0, none⟩)] w (Post E.cf (prApp E.cf R0) E t m L w (if 1073741823 < x then (S.burst, none) else if 1073741823 - toI x < ticks then prApp E.cf R0 k (.he 0 0 2) (S.note (startPoint wk 0 0 0 2)) else (S, some (popK .nodes (.ret (.st2 wk shard user (toI x + ticks) k)))))) := by
  have hx2 : x ≤ 1073741823 := by by_cases h : 1073741823 < x; (rw [if_pos h] at hbd; exact (St.burst_no hbd).elim); omega
  rw [if_neg (by omega)] at hbd ⊢
  have hti : toI x = x := by unfold toI wrap64; omega
  rw [hti] at hbd ⊢
  have hwx : IntKind.i64.wrap (x : Int) = x := IntWalk.i64_in _ (by omega)
  clear hti
  by_cases hf : 1073741823 - (x : Int) < ticks
  · rw [if_pos hf] at hbd ⊢
    have HD := Go.Lib.hid (Did.refl t L w)
    have HG := Go.Lib.hid hg
    have HE := Go.Lib.hid henv
    obtain ⟨ghk, chk, hvhk, hgfhk, _⟩ := id hk
    subst hvhk
    have henhk : ∀ (args : Array Value) (w : World), (callFunc ghk args).run Tryz.prog w = .ok (.enter ghk args) w := hgfhk
    have Hhk := Go.Lib.hid hk
    clear hg henv hk hgfhk
    have q0_0 : w.cell? ⟨bk, 0, none⟩ = some (.int .i64 ticks) := HE.out.cell 0 0 rfl rfl
    have q1_0 : w.cell? ⟨bj, 0, none⟩ = some (.pointer (some ⟨jb, 0, none⟩)) := HE.out.cell 1 0 rfl rfl
    have q2_0 : w.cell? ⟨jb, 0, none⟩ = some (.pointer (some ⟨E.k, 0, none⟩)) := HE.out.cell 2 0 rfl rfl
    have q2_1 : w.cell? ⟨jb, 1, none⟩ = some (.int .i64 wk) := HE.out.cell 2 1 rfl rfl
    have q2_2 : w.cell? ⟨jb, 2, none⟩ = some (.int .i64 ticks) := HE.out.cell 2 2 rfl rfl
    have q2_3 : w.cell? ⟨jb, 3, none⟩ = some (.int .i64 shard) := HE.out.cell 2 3 rfl rfl
    have q2_4 : w.cell? ⟨jb, 4, none⟩ = some (.int .i64 user) := HE.out.cell 2 4 rfl rfl
    have q2_5 : w.cell? ⟨jb, 5, none⟩ = some (.func (.func ghk) #[] chk) := HE.out.cell 2 5 rfl rfl
    go_enter Tryz.func92, Tryz.ntmps92
    go_wp2_with fail
    refine (st_fail (er := 2) hR HG.out (HE.out.sub (env' := [(jb, [.pointer (some ⟨E.k, 0, none⟩), .int .i64 wk, .int .i64 ticks, .int .i64 shard, .int .i64 user, .func (.func ghk) #[] chk])]) (by simp)) Hhk.out hw (by decide) hbd).mono ?_
    rintro e w9 ⟨v2, L9, rfl, hd2, hg2, hc2⟩
    go_wp2
    go_ret
    exact ⟨v2, L9, rfl, HD.out.trans hd2, hg2, hc2⟩
  · rw [if_neg hf]
    clear hbd
    have hws : IntKind.i64.wrap ((x : Int) + ticks) = (x : Int) + ticks := IntWalk.i64_in _ (by omega)
    have HD := Go.Lib.hid (Did.refl t L w)
    have HG := Go.Lib.hid hg
    have HE := Go.Lib.hid henv
    obtain ⟨ghk, chk, hvhk, hgfhk, _⟩ := id hk
    subst hvhk
    have henhk : ∀ (args : Array Value) (w : World), (callFunc ghk args).run Tryz.prog w = .ok (.enter ghk args) w := hgfhk
    have Hhk := Go.Lib.hid hk
    clear hg henv hk hgfhk
    have q0_0 : w.cell? ⟨bk, 0, none⟩ = some (.int .i64 ticks) := HE.out.cell 0 0 rfl rfl
    have q1_0 : w.cell? ⟨bj, 0, none⟩ = some (.pointer (some ⟨jb, 0, none⟩)) := HE.out.cell 1 0 rfl rfl
    have q2_0 : w.cell? ⟨jb, 0, none⟩ = some (.pointer (some ⟨E.k, 0, none⟩)) := HE.out.cell 2 0 rfl rfl
    have q2_1 : w.cell? ⟨jb, 1, none⟩ = some (.int .i64 wk) := HE.out.cell 2 1 rfl rfl
    have q2_2 : w.cell? ⟨jb, 2, none⟩ = some (.int .i64 ticks) := HE.out.cell 2 2 rfl rfl
    have q2_3 : w.cell? ⟨jb, 3, none⟩ = some (.int .i64 shard) := HE.out.cell 2 3 rfl rfl
    have q2_4 : w.cell? ⟨jb, 4, none⟩ = some (.int .i64 user) := HE.out.cell 2 4 rfl rfl
    have q2_5 : w.cell? ⟨jb, 5, none⟩ = some (.func (.func ghk) #[] chk) := HE.out.cell 2 5 rfl rfl
    go_enter Tryz.func92, Tryz.ntmps92
    go_wp2_with fail
    refine (st_node (deadline := (x : Int) + ticks) hR HG.out (HE.out.sub (env' := [(jb, [.pointer (some ⟨E.k, 0, none⟩), .int .i64 wk, .int .i64 ticks, .int .i64 shard, .int .i64 user, .func (.func ghk) #[] chk])]) (by simp)) Hhk.out hw ⟨by omega, by omega⟩).mono ?_
    rintro e w9 ⟨v2, L9, rfl, hd2, hg2, hc2⟩
    go_wp2
    go_ret
    exact ⟨v2, L9, rfl, HD.out.trans hd2, hg2, hc2⟩
theorem st1_con (hR : RMono (prApp E.cf R0)) {m : Nat} {wk ticks shard user : Int} {vk : Value} {k : PR ρ} {L : Lab} {w : World} {jb : Nat} {bj bk : Nat} (henv : Env L w [(bk, [.int .i64 ticks]), (bj, [.pointer (some ⟨jb, 0, none⟩)]), (jb, [.pointer (some ⟨E.k, 0, none⟩), .int .i64 wk, .int .i64 ticks, .int .i64 shard, .int .i64 user, vk])]) (hk : ConSim E.cf (prApp E.cf R0) E t isHe m L w vk (.ret k)) (hw : 0 ≤ wk) (htk : 0 ≤ ticks) (htu : ticks < 9223372036854775808) :
    ConSim E.cf (prApp E.cf R0) E t isW m L w (.func (.func 92) #[] #[.pointer (some ⟨bk, 0, none⟩), .pointer (some ⟨bj, 0, none⟩)]) (.ret (.st1 wk ticks shard user k)) := by
  refine ⟨_, _, rfl, enters_of Tryz.func92 (by kernel_rfl) rfl, ?_⟩
  intro a L' w' S ha hx hg hbd
  cases a with
  | w x =>
    show Calls _ _ #[_, _, _] _ _
    exact st1_call hR hg (henv.ext hx) (ConSim.ext E.cf (prApp E.cf R0) E t hk hx) hw htk htu hbd
  | _ => exact absurd ha (by simp [isW])
end
end Go.Proofs.YtgemjjpmoejgdaaGreat
