/- Migrate, as code. -/
import Derived.Test.YtgemjjpmoejgdaaGreatHss
namespace Go.Proofs.YtgemjjpmoejgdaaGreat
open Go.RowKit
set_option maxRecDepth 100000
set_option linter.unusedVariables false

section
variable {ρ : Type} {R0 : ρ → Arg → St → St × Option (K (PR ρ))} {E : G} {t : Nat}
set_option maxHeartbeats 4000000 in
theorem mg2_full (hR : RMono (prApp E.cf R0)) {m : Nat} {wk n g s : Int} {vk : Value} {k : PR ρ} {L : Lab} {w : World} {S : St} {jb : Nat} {bj x : Nat} (hg : Good E L S w) (henv : Env L w [(bj, [.pointer (some ⟨jb, 0, none⟩)]), (jb, [.pointer (some ⟨E.k, 0, none⟩), .int .i64 wk, .int .i64 s, .int .i64 n, .int .i64 g, vk])]) (hk : ConSim E.cf (prApp E.cf R0) E t isE m L w vk (.ret k)) (hw : 0 ≤ wk) (hsb : 0 ≤ s ∧ s ≤ 4294967294) (hnb : 0 ≤ n ∧ n ≤ 4294967294) (hx64 : x < 18446744073709551616) (h1 : ((part x 32 32 : Nat) : Int) = g) (h2 : ((part x 16 16 : Nat) : Int) = 65535) (hbd : Bd (prApp E.cf R0 k (.e 5) (S.note (migratePoint wk n g 5))).1) :
    Calls Tryz.prog 216 #[.int .u64 x, .pointer (some ⟨bj, 0, none⟩)] w (Post E.cf (prApp E.cf R0) E t m L w (prApp E.cf R0 k (.e 5) (S.note (migratePoint wk n g 5)))) := by
  have hvl : part x 16 16 < 65536 := by have h := part_lt x 16 16; simpa using h
  have HHO := Go.Lib.hid (fun w => of_HomeOf x w hx64)
  generalize part x 32 32 = gn at *
  generalize part x 16 16 = vn at *
  generalize part x 0 16 = sn at *
  have d1 : ((gn : Int) == g) = true := by simp; omega
  have d2 : ((vn : Int) == 65535) = true := by simp; omega
  have d3 : (vn = 65535) = True := by simp; omega
  have d4 : ((gn : Int) = g) = True := by simp; omega
  have d5 : ((vn : Int) = 65535) = True := by simp; omega
  clear h1 h2
  have HD := Go.Lib.hid (Did.refl t L w)
  have HG := Go.Lib.hid hg
  have HE := Go.Lib.hid henv
  obtain ⟨ghk, chk, hvhk, hgfhk, _⟩ := id hk
  subst hvhk
  have henhk : ∀ (args : Array Value) (w : World), (callFunc ghk args).run Tryz.prog w = .ok (.enter ghk args) w := hgfhk
  have Hhk := Go.Lib.hid hk
  clear hg henv hk hgfhk
  have q0_0 : w.cell? ⟨bj, 0, none⟩ = some (.pointer (some ⟨jb, 0, none⟩)) := HE.out.cell 0 0 rfl rfl
  have q1_0 : w.cell? ⟨jb, 0, none⟩ = some (.pointer (some ⟨E.k, 0, none⟩)) := HE.out.cell 1 0 rfl rfl
  have q1_1 : w.cell? ⟨jb, 1, none⟩ = some (.int .i64 wk) := HE.out.cell 1 1 rfl rfl
  have q1_2 : w.cell? ⟨jb, 2, none⟩ = some (.int .i64 s) := HE.out.cell 1 2 rfl rfl
  have q1_3 : w.cell? ⟨jb, 3, none⟩ = some (.int .i64 n) := HE.out.cell 1 3 rfl rfl
  have q1_4 : w.cell? ⟨jb, 4, none⟩ = some (.int .i64 g) := HE.out.cell 1 4 rfl rfl
  have q1_5 : w.cell? ⟨jb, 5, none⟩ = some (.func (.func ghk) #[] chk) := HE.out.cell 1 5 rfl rfl
  go_enter Tryz.func216, Tryz.ntmps216
  go_wp2_with fail
  refine (HHO.out _).mono ?_
  rintro e w1 ⟨rfl, hb⟩
  clear q0_0 q1_0 q1_1 q1_2 q1_3 q1_4 q1_5
  replace HG := Go.Lib.hid (HG.out.below hb)
  replace HE := Go.Lib.hid (HE.out.ext (below_ext hb t L))
  replace Hhk := Go.Lib.hid (ConSim.ext E.cf (prApp E.cf R0) E t Hhk.out (below_ext hb t L))
  replace HD := Go.Lib.hid (HD.out.trans (below_did hb t L))
  clear hb
  have q0_0 : w1.cell? ⟨bj, 0, none⟩ = some (.pointer (some ⟨jb, 0, none⟩)) := HE.out.cell 0 0 rfl rfl
  have q1_0 : w1.cell? ⟨jb, 0, none⟩ = some (.pointer (some ⟨E.k, 0, none⟩)) := HE.out.cell 1 0 rfl rfl
  have q1_1 : w1.cell? ⟨jb, 1, none⟩ = some (.int .i64 wk) := HE.out.cell 1 1 rfl rfl
  have q1_2 : w1.cell? ⟨jb, 2, none⟩ = some (.int .i64 s) := HE.out.cell 1 2 rfl rfl
  have q1_3 : w1.cell? ⟨jb, 3, none⟩ = some (.int .i64 n) := HE.out.cell 1 3 rfl rfl
  have q1_4 : w1.cell? ⟨jb, 4, none⟩ = some (.int .i64 g) := HE.out.cell 1 4 rfl rfl
  have q1_5 : w1.cell? ⟨jb, 5, none⟩ = some (.func (.func ghk) #[] chk) := HE.out.cell 1 5 rfl rfl
  have hb : Below w1.heap.size w1 (w1.alloc (.cells #[.int .i64 gn, .int .i64 vn, .int .i64 sn] 83)) := (Below.refl _ _).alloc (Nat.le_refl _) _
  have HE0 := Go.Lib.hid (Env.alloc_at HE.out (fun b hb => HG.out.new b hb) [.int .i64 gn, .int .i64 vn, .int .i64 sn] 83 (b := w1.heap.size) rfl)
  have n0_0 : (w1.alloc (.cells #[.int .i64 gn, .int .i64 vn, .int .i64 sn] 83)).cell? ⟨bj, 0, none⟩ = some (.pointer (some ⟨jb, 0, none⟩)) := below_cell hb q0_0
  have n1_0 : (w1.alloc (.cells #[.int .i64 gn, .int .i64 vn, .int .i64 sn] 83)).cell? ⟨jb, 0, none⟩ = some (.pointer (some ⟨E.k, 0, none⟩)) := below_cell hb q1_0
  have n1_1 : (w1.alloc (.cells #[.int .i64 gn, .int .i64 vn, .int .i64 sn] 83)).cell? ⟨jb, 1, none⟩ = some (.int .i64 wk) := below_cell hb q1_1
  have n1_2 : (w1.alloc (.cells #[.int .i64 gn, .int .i64 vn, .int .i64 sn] 83)).cell? ⟨jb, 2, none⟩ = some (.int .i64 s) := below_cell hb q1_2
  have n1_3 : (w1.alloc (.cells #[.int .i64 gn, .int .i64 vn, .int .i64 sn] 83)).cell? ⟨jb, 3, none⟩ = some (.int .i64 n) := below_cell hb q1_3
  have n1_4 : (w1.alloc (.cells #[.int .i64 gn, .int .i64 vn, .int .i64 sn] 83)).cell? ⟨jb, 4, none⟩ = some (.int .i64 g) := below_cell hb q1_4
  have n1_5 : (w1.alloc (.cells #[.int .i64 gn, .int .i64 vn, .int .i64 sn] 83)).cell? ⟨jb, 5, none⟩ = some (.func (.func ghk) #[] chk) := below_cell hb q1_5
  go_wp2
  clear n0_0 n1_0 n1_1 n1_2 n1_3 n1_4 n1_5 q0_0 q1_0 q1_1 q1_2 q1_3 q1_4 q1_5
  generalize (w1.alloc (.cells #[.int .i64 gn, .int .i64 vn, .int .i64 sn] 83)) = w2 at *
  replace HG := Go.Lib.hid (HG.out.below hb)
  replace HE := Go.Lib.hid (HE0.out)
  replace Hhk := Go.Lib.hid (ConSim.ext E.cf (prApp E.cf R0) E t Hhk.out (below_ext hb t L))
  replace HD := Go.Lib.hid (HD.out.trans (below_did hb t L))
  clear hb HE0
  have q0_0 : w2.cell? ⟨w1.heap.size, 0, none⟩ = some (.int .i64 gn) := HE.out.cell 0 0 rfl rfl
  have q0_1 : w2.cell? ⟨w1.heap.size, 1, none⟩ = some (.int .i64 vn) := HE.out.cell 0 1 rfl rfl
  have q0_2 : w2.cell? ⟨w1.heap.size, 2, none⟩ = some (.int .i64 sn) := HE.out.cell 0 2 rfl rfl
  have q1_0 : w2.cell? ⟨bj, 0, none⟩ = some (.pointer (some ⟨jb, 0, none⟩)) := HE.out.cell 1 0 rfl rfl
  have q2_0 : w2.cell? ⟨jb, 0, none⟩ = some (.pointer (some ⟨E.k, 0, none⟩)) := HE.out.cell 2 0 rfl rfl
  have q2_1 : w2.cell? ⟨jb, 1, none⟩ = some (.int .i64 wk) := HE.out.cell 2 1 rfl rfl
  have q2_2 : w2.cell? ⟨jb, 2, none⟩ = some (.int .i64 s) := HE.out.cell 2 2 rfl rfl
  have q2_3 : w2.cell? ⟨jb, 3, none⟩ = some (.int .i64 n) := HE.out.cell 2 3 rfl rfl
  have q2_4 : w2.cell? ⟨jb, 4, none⟩ = some (.int .i64 g) := HE.out.cell 2 4 rfl rfl
  have q2_5 : w2.cell? ⟨jb, 5, none⟩ = some (.func (.func ghk) #[] chk) := HE.out.cell 2 5 rfl rfl
  have q0_0' : ∀ d os, (Sort.grow (redrawn w2 d) os).cell? ⟨w1.heap.size, 0, none⟩ = some (.int .i64 gn) := fun d os => cell_regrown q0_0 d os
  have q0_1' : ∀ d os, (Sort.grow (redrawn w2 d) os).cell? ⟨w1.heap.size, 1, none⟩ = some (.int .i64 vn) := fun d os => cell_regrown q0_1 d os
  have q0_2' : ∀ d os, (Sort.grow (redrawn w2 d) os).cell? ⟨w1.heap.size, 2, none⟩ = some (.int .i64 sn) := fun d os => cell_regrown q0_2 d os
  have q1_0' : ∀ d os, (Sort.grow (redrawn w2 d) os).cell? ⟨bj, 0, none⟩ = some (.pointer (some ⟨jb, 0, none⟩)) := fun d os => cell_regrown q1_0 d os
  have q2_0' : ∀ d os, (Sort.grow (redrawn w2 d) os).cell? ⟨jb, 0, none⟩ = some (.pointer (some ⟨E.k, 0, none⟩)) := fun d os => cell_regrown q2_0 d os
  have q2_1' : ∀ d os, (Sort.grow (redrawn w2 d) os).cell? ⟨jb, 1, none⟩ = some (.int .i64 wk) := fun d os => cell_regrown q2_1 d os
  have q2_2' : ∀ d os, (Sort.grow (redrawn w2 d) os).cell? ⟨jb, 2, none⟩ = some (.int .i64 s) := fun d os => cell_regrown q2_2 d os
  have q2_3' : ∀ d os, (Sort.grow (redrawn w2 d) os).cell? ⟨jb, 3, none⟩ = some (.int .i64 n) := fun d os => cell_regrown q2_3 d os
  have q2_4' : ∀ d os, (Sort.grow (redrawn w2 d) os).cell? ⟨jb, 4, none⟩ = some (.int .i64 g) := fun d os => cell_regrown q2_4 d os
  have q2_5' : ∀ d os, (Sort.grow (redrawn w2 d) os).cell? ⟨jb, 5, none⟩ = some (.func (.func ghk) #[] chk) := fun d os => cell_regrown q2_5 d os
  refine wp_region_quiet_below (by kernel_rfl) (by kernel_rfl) ?_
  repeat (go_big_quiet_step (first
    | fail))
  refine wpQuiet_nil ?_
  intro w3 hw'
  obtain ⟨p, rfl⟩ := hw'
  have hb := below_regrown w2 p.d p.os
  clear q0_0' q0_1' q0_2' q1_0' q2_0' q2_1' q2_2' q2_3' q2_4' q2_5' q0_0 q0_1 q0_2 q1_0 q2_0 q2_1 q2_2 q2_3 q2_4 q2_5
  generalize Sort.grow (redrawn w2 p.d) p.os = w3 at *
  replace HG := Go.Lib.hid (HG.out.below hb)
  replace HE := Go.Lib.hid (HE.out.ext (below_ext hb t L))
  replace Hhk := Go.Lib.hid (ConSim.ext E.cf (prApp E.cf R0) E t Hhk.out (below_ext hb t L))
  replace HD := Go.Lib.hid (HD.out.trans (below_did hb t L))
  clear hb
  have q0_0 : w3.cell? ⟨w1.heap.size, 0, none⟩ = some (.int .i64 gn) := HE.out.cell 0 0 rfl rfl
  have q0_1 : w3.cell? ⟨w1.heap.size, 1, none⟩ = some (.int .i64 vn) := HE.out.cell 0 1 rfl rfl
  have q0_2 : w3.cell? ⟨w1.heap.size, 2, none⟩ = some (.int .i64 sn) := HE.out.cell 0 2 rfl rfl
  have q1_0 : w3.cell? ⟨bj, 0, none⟩ = some (.pointer (some ⟨jb, 0, none⟩)) := HE.out.cell 1 0 rfl rfl
  have q2_0 : w3.cell? ⟨jb, 0, none⟩ = some (.pointer (some ⟨E.k, 0, none⟩)) := HE.out.cell 2 0 rfl rfl
  have q2_1 : w3.cell? ⟨jb, 1, none⟩ = some (.int .i64 wk) := HE.out.cell 2 1 rfl rfl
  have q2_2 : w3.cell? ⟨jb, 2, none⟩ = some (.int .i64 s) := HE.out.cell 2 2 rfl rfl
  have q2_3 : w3.cell? ⟨jb, 3, none⟩ = some (.int .i64 n) := HE.out.cell 2 3 rfl rfl
  have q2_4 : w3.cell? ⟨jb, 4, none⟩ = some (.int .i64 g) := HE.out.cell 2 4 rfl rfl
  have q2_5 : w3.cell? ⟨jb, 5, none⟩ = some (.func (.func ghk) #[] chk) := HE.out.cell 2 5 rfl rfl
  go_wp2_with fail
  refine (mg_fail (er := 5) hR HG.out (HE.out.sub (env' := [(jb, [.pointer (some ⟨E.k, 0, none⟩), .int .i64 wk, .int .i64 s, .int .i64 n, .int .i64 g, .func (.func ghk) #[] chk])]) (by simp)) Hhk.out hw (by decide) hbd).mono ?_
  rintro e w9 ⟨v2, L9, rfl, hd2, hg2, hc2⟩
  go_wp2
  go_ret
  exact ⟨v2, L9, rfl, HD.out.trans hd2, hg2, hc2⟩
set_option maxHeartbeats 4000000 in
theorem mg2_next (hR : RMono (prApp E.cf R0)) {m : Nat} {wk n g s : Int} {vk : Value} {k : PR ρ} {L : Lab} {w : World} {S : St} {jb : Nat} {bj x : Nat} (hg : Good E L S w) (henv : Env L w [(bj, [.pointer (some ⟨jb, 0, none⟩)]), (jb, [.pointer (some ⟨E.k, 0, none⟩), .int .i64 wk, .int .i64 s, .int .i64 n, .int .i64 g, vk])]) (hk : ConSim E.cf (prApp E.cf R0) E t isE m L w vk (.ret k)) (hw : 0 ≤ wk) (hsb : 0 ≤ s ∧ s ≤ 4294967294) (hnb : 0 ≤ n ∧ n ≤ 4294967294) (hx64 : x < 18446744073709551616) (h1 : ((part x 32 32 : Nat) : Int) = g) (h2 : ¬ ((part x 16 16 : Nat) : Int) = 65535) :
    Calls Tryz.prog 216 #[.int .u64 x, .pointer (some ⟨bj, 0, none⟩)] w (Post E.cf (prApp E.cf R0) E t m L w ((S, some (popK .tickets (.ret (.mg3 wk n g s x (((part x 16 16 : Nat) : Int) + 1) k)))))) := by
  have hvl : part x 16 16 < 65536 := by have h := part_lt x 16 16; simpa using h
  have HHO := Go.Lib.hid (fun w => of_HomeOf x w hx64)
  generalize part x 32 32 = gn at *
  generalize part x 16 16 = vn at *
  generalize part x 0 16 = sn at *
  have d1 : ((gn : Int) == g) = true := by simp; omega
  have d2 : ((vn : Int) == 65535) = false := by simp; omega
  have d3 : (vn = 65535) = False := by simp; omega
  have d4 : ((gn : Int) = g) = True := by simp; omega
  have d5 : ((vn : Int) = 65535) = False := by simp; omega
  have d6 : (vn : Int) + 1 ≤ 65535 := by omega
  have hwv : IntKind.i64.wrap ((vn : Int) + 1) = (vn : Int) + 1 := IntWalk.i64_in _ (by omega)
  clear h1 h2 -- ((vn : Int) + 1)
  have HD := Go.Lib.hid (Did.refl t L w)
  have HG := Go.Lib.hid hg
  have HE := Go.Lib.hid henv
  obtain ⟨ghk, chk, hvhk, hgfhk, _⟩ := id hk
  subst hvhk
  have henhk : ∀ (args : Array Value) (w : World), (callFunc ghk args).run Tryz.prog w = .ok (.enter ghk args) w := hgfhk
  have Hhk := Go.Lib.hid hk
  clear hg henv hk hgfhk
  have q0_0 : w.cell? ⟨bj, 0, none⟩ = some (.pointer (some ⟨jb, 0, none⟩)) := HE.out.cell 0 0 rfl rfl
  have q1_0 : w.cell? ⟨jb, 0, none⟩ = some (.pointer (some ⟨E.k, 0, none⟩)) := HE.out.cell 1 0 rfl rfl
  have q1_1 : w.cell? ⟨jb, 1, none⟩ = some (.int .i64 wk) := HE.out.cell 1 1 rfl rfl
  have q1_2 : w.cell? ⟨jb, 2, none⟩ = some (.int .i64 s) := HE.out.cell 1 2 rfl rfl
  have q1_3 : w.cell? ⟨jb, 3, none⟩ = some (.int .i64 n) := HE.out.cell 1 3 rfl rfl
  have q1_4 : w.cell? ⟨jb, 4, none⟩ = some (.int .i64 g) := HE.out.cell 1 4 rfl rfl
  have q1_5 : w.cell? ⟨jb, 5, none⟩ = some (.func (.func ghk) #[] chk) := HE.out.cell 1 5 rfl rfl
  go_enter Tryz.func216, Tryz.ntmps216
  go_wp2_with fail
  refine (HHO.out _).mono ?_
  rintro e w1 ⟨rfl, hb⟩
  clear q0_0 q1_0 q1_1 q1_2 q1_3 q1_4 q1_5
  replace HG := Go.Lib.hid (HG.out.below hb)
  replace HE := Go.Lib.hid (HE.out.ext (below_ext hb t L))
  replace Hhk := Go.Lib.hid (ConSim.ext E.cf (prApp E.cf R0) E t Hhk.out (below_ext hb t L))
  replace HD := Go.Lib.hid (HD.out.trans (below_did hb t L))
  clear hb
  have q0_0 : w1.cell? ⟨bj, 0, none⟩ = some (.pointer (some ⟨jb, 0, none⟩)) := HE.out.cell 0 0 rfl rfl
  have q1_0 : w1.cell? ⟨jb, 0, none⟩ = some (.pointer (some ⟨E.k, 0, none⟩)) := HE.out.cell 1 0 rfl rfl
  have q1_1 : w1.cell? ⟨jb, 1, none⟩ = some (.int .i64 wk) := HE.out.cell 1 1 rfl rfl
  have q1_2 : w1.cell? ⟨jb, 2, none⟩ = some (.int .i64 s) := HE.out.cell 1 2 rfl rfl
  have q1_3 : w1.cell? ⟨jb, 3, none⟩ = some (.int .i64 n) := HE.out.cell 1 3 rfl rfl
  have q1_4 : w1.cell? ⟨jb, 4, none⟩ = some (.int .i64 g) := HE.out.cell 1 4 rfl rfl
  have q1_5 : w1.cell? ⟨jb, 5, none⟩ = some (.func (.func ghk) #[] chk) := HE.out.cell 1 5 rfl rfl
  have hb : Below w1.heap.size w1 (w1.alloc (.cells #[.int .i64 gn, .int .i64 vn, .int .i64 sn] 83)) := (Below.refl _ _).alloc (Nat.le_refl _) _
  have HE0 := Go.Lib.hid (Env.alloc_at HE.out (fun b hb => HG.out.new b hb) [.int .i64 gn, .int .i64 vn, .int .i64 sn] 83 (b := w1.heap.size) rfl)
  have n0_0 : (w1.alloc (.cells #[.int .i64 gn, .int .i64 vn, .int .i64 sn] 83)).cell? ⟨bj, 0, none⟩ = some (.pointer (some ⟨jb, 0, none⟩)) := below_cell hb q0_0
  have n1_0 : (w1.alloc (.cells #[.int .i64 gn, .int .i64 vn, .int .i64 sn] 83)).cell? ⟨jb, 0, none⟩ = some (.pointer (some ⟨E.k, 0, none⟩)) := below_cell hb q1_0
  have n1_1 : (w1.alloc (.cells #[.int .i64 gn, .int .i64 vn, .int .i64 sn] 83)).cell? ⟨jb, 1, none⟩ = some (.int .i64 wk) := below_cell hb q1_1
  have n1_2 : (w1.alloc (.cells #[.int .i64 gn, .int .i64 vn, .int .i64 sn] 83)).cell? ⟨jb, 2, none⟩ = some (.int .i64 s) := below_cell hb q1_2
  have n1_3 : (w1.alloc (.cells #[.int .i64 gn, .int .i64 vn, .int .i64 sn] 83)).cell? ⟨jb, 3, none⟩ = some (.int .i64 n) := below_cell hb q1_3
  have n1_4 : (w1.alloc (.cells #[.int .i64 gn, .int .i64 vn, .int .i64 sn] 83)).cell? ⟨jb, 4, none⟩ = some (.int .i64 g) := below_cell hb q1_4
  have n1_5 : (w1.alloc (.cells #[.int .i64 gn, .int .i64 vn, .int .i64 sn] 83)).cell? ⟨jb, 5, none⟩ = some (.func (.func ghk) #[] chk) := below_cell hb q1_5
  go_wp2
  clear n0_0 n1_0 n1_1 n1_2 n1_3 n1_4 n1_5 q0_0 q1_0 q1_1 q1_2 q1_3 q1_4 q1_5
  generalize (w1.alloc (.cells #[.int .i64 gn, .int .i64 vn, .int .i64 sn] 83)) = w2 at *
  replace HG := Go.Lib.hid (HG.out.below hb)
  replace HE := Go.Lib.hid (HE0.out)
  replace Hhk := Go.Lib.hid (ConSim.ext E.cf (prApp E.cf R0) E t Hhk.out (below_ext hb t L))
  replace HD := Go.Lib.hid (HD.out.trans (below_did hb t L))
  clear hb HE0
  have q0_0 : w2.cell? ⟨w1.heap.size, 0, none⟩ = some (.int .i64 gn) := HE.out.cell 0 0 rfl rfl
  have q0_1 : w2.cell? ⟨w1.heap.size, 1, none⟩ = some (.int .i64 vn) := HE.out.cell 0 1 rfl rfl
  have q0_2 : w2.cell? ⟨w1.heap.size, 2, none⟩ = some (.int .i64 sn) := HE.out.cell 0 2 rfl rfl
  have q1_0 : w2.cell? ⟨bj, 0, none⟩ = some (.pointer (some ⟨jb, 0, none⟩)) := HE.out.cell 1 0 rfl rfl
  have q2_0 : w2.cell? ⟨jb, 0, none⟩ = some (.pointer (some ⟨E.k, 0, none⟩)) := HE.out.cell 2 0 rfl rfl
  have q2_1 : w2.cell? ⟨jb, 1, none⟩ = some (.int .i64 wk) := HE.out.cell 2 1 rfl rfl
  have q2_2 : w2.cell? ⟨jb, 2, none⟩ = some (.int .i64 s) := HE.out.cell 2 2 rfl rfl
  have q2_3 : w2.cell? ⟨jb, 3, none⟩ = some (.int .i64 n) := HE.out.cell 2 3 rfl rfl
  have q2_4 : w2.cell? ⟨jb, 4, none⟩ = some (.int .i64 g) := HE.out.cell 2 4 rfl rfl
  have q2_5 : w2.cell? ⟨jb, 5, none⟩ = some (.func (.func ghk) #[] chk) := HE.out.cell 2 5 rfl rfl
  have q0_0' : ∀ d os, (Sort.grow (redrawn w2 d) os).cell? ⟨w1.heap.size, 0, none⟩ = some (.int .i64 gn) := fun d os => cell_regrown q0_0 d os
  have q0_1' : ∀ d os, (Sort.grow (redrawn w2 d) os).cell? ⟨w1.heap.size, 1, none⟩ = some (.int .i64 vn) := fun d os => cell_regrown q0_1 d os
  have q0_2' : ∀ d os, (Sort.grow (redrawn w2 d) os).cell? ⟨w1.heap.size, 2, none⟩ = some (.int .i64 sn) := fun d os => cell_regrown q0_2 d os
  have q1_0' : ∀ d os, (Sort.grow (redrawn w2 d) os).cell? ⟨bj, 0, none⟩ = some (.pointer (some ⟨jb, 0, none⟩)) := fun d os => cell_regrown q1_0 d os
  have q2_0' : ∀ d os, (Sort.grow (redrawn w2 d) os).cell? ⟨jb, 0, none⟩ = some (.pointer (some ⟨E.k, 0, none⟩)) := fun d os => cell_regrown q2_0 d os
  have q2_1' : ∀ d os, (Sort.grow (redrawn w2 d) os).cell? ⟨jb, 1, none⟩ = some (.int .i64 wk) := fun d os => cell_regrown q2_1 d os
  have q2_2' : ∀ d os, (Sort.grow (redrawn w2 d) os).cell? ⟨jb, 2, none⟩ = some (.int .i64 s) := fun d os => cell_regrown q2_2 d os
  have q2_3' : ∀ d os, (Sort.grow (redrawn w2 d) os).cell? ⟨jb, 3, none⟩ = some (.int .i64 n) := fun d os => cell_regrown q2_3 d os
  have q2_4' : ∀ d os, (Sort.grow (redrawn w2 d) os).cell? ⟨jb, 4, none⟩ = some (.int .i64 g) := fun d os => cell_regrown q2_4 d os
  have q2_5' : ∀ d os, (Sort.grow (redrawn w2 d) os).cell? ⟨jb, 5, none⟩ = some (.func (.func ghk) #[] chk) := fun d os => cell_regrown q2_5 d os
  refine wp_region_quiet_below (by kernel_rfl) (by kernel_rfl) ?_
  repeat (go_big_quiet_step (first
    | fail))
  refine wpQuiet_nil ?_
  intro w3 hw'
  obtain ⟨p, rfl⟩ := hw'
  have hb := below_regrown w2 p.d p.os
  clear q0_0' q0_1' q0_2' q1_0' q2_0' q2_1' q2_2' q2_3' q2_4' q2_5' q0_0 q0_1 q0_2 q1_0 q2_0 q2_1 q2_2 q2_3 q2_4 q2_5
  generalize Sort.grow (redrawn w2 p.d) p.os = w3 at *
  replace HG := Go.Lib.hid (HG.out.below hb)
  replace HE := Go.Lib.hid (HE.out.ext (below_ext hb t L))
  replace Hhk := Go.Lib.hid (ConSim.ext E.cf (prApp E.cf R0) E t Hhk.out (below_ext hb t L))
  replace HD := Go.Lib.hid (HD.out.trans (below_did hb t L))
  clear hb
  have q0_0 : w3.cell? ⟨w1.heap.size, 0, none⟩ = some (.int .i64 gn) := HE.out.cell 0 0 rfl rfl
  have q0_1 : w3.cell? ⟨w1.heap.size, 1, none⟩ = some (.int .i64 vn) := HE.out.cell 0 1 rfl rfl
  have q0_2 : w3.cell? ⟨w1.heap.size, 2, none⟩ = some (.int .i64 sn) := HE.out.cell 0 2 rfl rfl
  have q1_0 : w3.cell? ⟨bj, 0, none⟩ = some (.pointer (some ⟨jb, 0, none⟩)) := HE.out.cell 1 0 rfl rfl
  have q2_0 : w3.cell? ⟨jb, 0, none⟩ = some (.pointer (some ⟨E.k, 0, none⟩)) := HE.out.cell 2 0 rfl rfl
  have q2_1 : w3.cell? ⟨jb, 1, none⟩ = some (.int .i64 wk) := HE.out.cell 2 1 rfl rfl
  have q2_2 : w3.cell? ⟨jb, 2, none⟩ = some (.int .i64 s) := HE.out.cell 2 2 rfl rfl
  have q2_3 : w3.cell? ⟨jb, 3, none⟩ = some (.int .i64 n) := HE.out.cell 2 3 rfl rfl
  have q2_4 : w3.cell? ⟨jb, 4, none⟩ = some (.int .i64 g) := HE.out.cell 2 4 rfl rfl
  have q2_5 : w3.cell? ⟨jb, 5, none⟩ = some (.func (.func ghk) #[] chk) := HE.out.cell 2 5 rfl rfl
  go_wp2_with fail
  refine (mg_ticket (x := x) (v := ((vn : Int) + 1)) hR HG.out (HE.out.sub (env' := [(jb, [.pointer (some ⟨E.k, 0, none⟩), .int .i64 wk, .int .i64 s, .int .i64 n, .int .i64 g, .func (.func ghk) #[] chk])]) (by simp)) Hhk.out hw (by omega) hsb hnb).mono ?_
  rintro e w9 ⟨v2, L9, rfl, hd2, hg2, hc2⟩
  go_wp2
  go_ret
  exact ⟨v2, L9, rfl, HD.out.trans hd2, hg2, hc2⟩
set_option maxHeartbeats 4000000 in
theorem mg2_first (hR : RMono (prApp E.cf R0)) {m : Nat} {wk n g s : Int} {vk : Value} {k : PR ρ} {L : Lab} {w : World} {S : St} {jb : Nat} {bj x : Nat} (hg : Good E L S w) (henv : Env L w [(bj, [.pointer (some ⟨jb, 0, none⟩)]), (jb, [.pointer (some ⟨E.k, 0, none⟩), .int .i64 wk, .int .i64 s, .int .i64 n, .int .i64 g, vk])]) (hk : ConSim E.cf (prApp E.cf R0) E t isE m L w vk (.ret k)) (hw : 0 ≤ wk) (hsb : 0 ≤ s ∧ s ≤ 4294967294) (hnb : 0 ≤ n ∧ n ≤ 4294967294) (hx64 : x < 18446744073709551616) (h1 : ¬ ((part x 32 32 : Nat) : Int) = g) :
    Calls Tryz.prog 216 #[.int .u64 x, .pointer (some ⟨bj, 0, none⟩)] w (Post E.cf (prApp E.cf R0) E t m L w ((S, some (popK .tickets (.ret (.mg3 wk n g s x 1 k)))))) := by
  have hvl : part x 16 16 < 65536 := by have h := part_lt x 16 16; simpa using h
  have HHO := Go.Lib.hid (fun w => of_HomeOf x w hx64)
  generalize part x 32 32 = gn at *
  generalize part x 16 16 = vn at *
  generalize part x 0 16 = sn at *
  have d1 : ((gn : Int) == g) = false := by simpa using h1
  have d4 : ((gn : Int) = g) = False := by simpa using h1
  clear h1 -- 1
  have HD := Go.Lib.hid (Did.refl t L w)
  have HG := Go.Lib.hid hg
  have HE := Go.Lib.hid henv
  obtain ⟨ghk, chk, hvhk, hgfhk, _⟩ := id hk
  subst hvhk
  have henhk : ∀ (args : Array Value) (w : World), (callFunc ghk args).run Tryz.prog w = .ok (.enter ghk args) w := hgfhk
  have Hhk := Go.Lib.hid hk
  clear hg henv hk hgfhk
  have q0_0 : w.cell? ⟨bj, 0, none⟩ = some (.pointer (some ⟨jb, 0, none⟩)) := HE.out.cell 0 0 rfl rfl
  have q1_0 : w.cell? ⟨jb, 0, none⟩ = some (.pointer (some ⟨E.k, 0, none⟩)) := HE.out.cell 1 0 rfl rfl
  have q1_1 : w.cell? ⟨jb, 1, none⟩ = some (.int .i64 wk) := HE.out.cell 1 1 rfl rfl
  have q1_2 : w.cell? ⟨jb, 2, none⟩ = some (.int .i64 s) := HE.out.cell 1 2 rfl rfl
  have q1_3 : w.cell? ⟨jb, 3, none⟩ = some (.int .i64 n) := HE.out.cell 1 3 rfl rfl
  have q1_4 : w.cell? ⟨jb, 4, none⟩ = some (.int .i64 g) := HE.out.cell 1 4 rfl rfl
  have q1_5 : w.cell? ⟨jb, 5, none⟩ = some (.func (.func ghk) #[] chk) := HE.out.cell 1 5 rfl rfl
  go_enter Tryz.func216, Tryz.ntmps216
  go_wp2_with fail
  refine (HHO.out _).mono ?_
  rintro e w1 ⟨rfl, hb⟩
  clear q0_0 q1_0 q1_1 q1_2 q1_3 q1_4 q1_5
  replace HG := Go.Lib.hid (HG.out.below hb)
  replace HE := Go.Lib.hid (HE.out.ext (below_ext hb t L))
  replace Hhk := Go.Lib.hid (ConSim.ext E.cf (prApp E.cf R0) E t Hhk.out (below_ext hb t L))
  replace HD := Go.Lib.hid (HD.out.trans (below_did hb t L))
  clear hb
  have q0_0 : w1.cell? ⟨bj, 0, none⟩ = some (.pointer (some ⟨jb, 0, none⟩)) := HE.out.cell 0 0 rfl rfl
  have q1_0 : w1.cell? ⟨jb, 0, none⟩ = some (.pointer (some ⟨E.k, 0, none⟩)) := HE.out.cell 1 0 rfl rfl
  have q1_1 : w1.cell? ⟨jb, 1, none⟩ = some (.int .i64 wk) := HE.out.cell 1 1 rfl rfl
  have q1_2 : w1.cell? ⟨jb, 2, none⟩ = some (.int .i64 s) := HE.out.cell 1 2 rfl rfl
  have q1_3 : w1.cell? ⟨jb, 3, none⟩ = some (.int .i64 n) := HE.out.cell 1 3 rfl rfl
  have q1_4 : w1.cell? ⟨jb, 4, none⟩ = some (.int .i64 g) := HE.out.cell 1 4 rfl rfl
  have q1_5 : w1.cell? ⟨jb, 5, none⟩ = some (.func (.func ghk) #[] chk) := HE.out.cell 1 5 rfl rfl
  have hb : Below w1.heap.size w1 (w1.alloc (.cells #[.int .i64 gn, .int .i64 vn, .int .i64 sn] 83)) := (Below.refl _ _).alloc (Nat.le_refl _) _
  have HE0 := Go.Lib.hid (Env.alloc_at HE.out (fun b hb => HG.out.new b hb) [.int .i64 gn, .int .i64 vn, .int .i64 sn] 83 (b := w1.heap.size) rfl)
  have n0_0 : (w1.alloc (.cells #[.int .i64 gn, .int .i64 vn, .int .i64 sn] 83)).cell? ⟨bj, 0, none⟩ = some (.pointer (some ⟨jb, 0, none⟩)) := below_cell hb q0_0
  have n1_0 : (w1.alloc (.cells #[.int .i64 gn, .int .i64 vn, .int .i64 sn] 83)).cell? ⟨jb, 0, none⟩ = some (.pointer (some ⟨E.k, 0, none⟩)) := below_cell hb q1_0
  have n1_1 : (w1.alloc (.cells #[.int .i64 gn, .int .i64 vn, .int .i64 sn] 83)).cell? ⟨jb, 1, none⟩ = some (.int .i64 wk) := below_cell hb q1_1
  have n1_2 : (w1.alloc (.cells #[.int .i64 gn, .int .i64 vn, .int .i64 sn] 83)).cell? ⟨jb, 2, none⟩ = some (.int .i64 s) := below_cell hb q1_2
  have n1_3 : (w1.alloc (.cells #[.int .i64 gn, .int .i64 vn, .int .i64 sn] 83)).cell? ⟨jb, 3, none⟩ = some (.int .i64 n) := below_cell hb q1_3
  have n1_4 : (w1.alloc (.cells #[.int .i64 gn, .int .i64 vn, .int .i64 sn] 83)).cell? ⟨jb, 4, none⟩ = some (.int .i64 g) := below_cell hb q1_4
  have n1_5 : (w1.alloc (.cells #[.int .i64 gn, .int .i64 vn, .int .i64 sn] 83)).cell? ⟨jb, 5, none⟩ = some (.func (.func ghk) #[] chk) := below_cell hb q1_5
  go_wp2
  clear n0_0 n1_0 n1_1 n1_2 n1_3 n1_4 n1_5 q0_0 q1_0 q1_1 q1_2 q1_3 q1_4 q1_5
  generalize (w1.alloc (.cells #[.int .i64 gn, .int .i64 vn, .int .i64 sn] 83)) = w2 at *
  replace HG := Go.Lib.hid (HG.out.below hb)
  replace HE := Go.Lib.hid (HE0.out)
  replace Hhk := Go.Lib.hid (ConSim.ext E.cf (prApp E.cf R0) E t Hhk.out (below_ext hb t L))
  replace HD := Go.Lib.hid (HD.out.trans (below_did hb t L))
  clear hb HE0
  have q0_0 : w2.cell? ⟨w1.heap.size, 0, none⟩ = some (.int .i64 gn) := HE.out.cell 0 0 rfl rfl
  have q0_1 : w2.cell? ⟨w1.heap.size, 1, none⟩ = some (.int .i64 vn) := HE.out.cell 0 1 rfl rfl
  have q0_2 : w2.cell? ⟨w1.heap.size, 2, none⟩ = some (.int .i64 sn) := HE.out.cell 0 2 rfl rfl
  have q1_0 : w2.cell? ⟨bj, 0, none⟩ = some (.pointer (some ⟨jb, 0, none⟩)) := HE.out.cell 1 0 rfl rfl
  have q2_0 : w2.cell? ⟨jb, 0, none⟩ = some (.pointer (some ⟨E.k, 0, none⟩)) := HE.out.cell 2 0 rfl rfl
  have q2_1 : w2.cell? ⟨jb, 1, none⟩ = some (.int .i64 wk) := HE.out.cell 2 1 rfl rfl
  have q2_2 : w2.cell? ⟨jb, 2, none⟩ = some (.int .i64 s) := HE.out.cell 2 2 rfl rfl
  have q2_3 : w2.cell? ⟨jb, 3, none⟩ = some (.int .i64 n) := HE.out.cell 2 3 rfl rfl
  have q2_4 : w2.cell? ⟨jb, 4, none⟩ = some (.int .i64 g) := HE.out.cell 2 4 rfl rfl
  have q2_5 : w2.cell? ⟨jb, 5, none⟩ = some (.func (.func ghk) #[] chk) := HE.out.cell 2 5 rfl rfl
  have q0_0' : ∀ d os, (Sort.grow (redrawn w2 d) os).cell? ⟨w1.heap.size, 0, none⟩ = some (.int .i64 gn) := fun d os => cell_regrown q0_0 d os
  have q0_1' : ∀ d os, (Sort.grow (redrawn w2 d) os).cell? ⟨w1.heap.size, 1, none⟩ = some (.int .i64 vn) := fun d os => cell_regrown q0_1 d os
  have q0_2' : ∀ d os, (Sort.grow (redrawn w2 d) os).cell? ⟨w1.heap.size, 2, none⟩ = some (.int .i64 sn) := fun d os => cell_regrown q0_2 d os
  have q1_0' : ∀ d os, (Sort.grow (redrawn w2 d) os).cell? ⟨bj, 0, none⟩ = some (.pointer (some ⟨jb, 0, none⟩)) := fun d os => cell_regrown q1_0 d os
  have q2_0' : ∀ d os, (Sort.grow (redrawn w2 d) os).cell? ⟨jb, 0, none⟩ = some (.pointer (some ⟨E.k, 0, none⟩)) := fun d os => cell_regrown q2_0 d os
  have q2_1' : ∀ d os, (Sort.grow (redrawn w2 d) os).cell? ⟨jb, 1, none⟩ = some (.int .i64 wk) := fun d os => cell_regrown q2_1 d os
  have q2_2' : ∀ d os, (Sort.grow (redrawn w2 d) os).cell? ⟨jb, 2, none⟩ = some (.int .i64 s) := fun d os => cell_regrown q2_2 d os
  have q2_3' : ∀ d os, (Sort.grow (redrawn w2 d) os).cell? ⟨jb, 3, none⟩ = some (.int .i64 n) := fun d os => cell_regrown q2_3 d os
  have q2_4' : ∀ d os, (Sort.grow (redrawn w2 d) os).cell? ⟨jb, 4, none⟩ = some (.int .i64 g) := fun d os => cell_regrown q2_4 d os
  have q2_5' : ∀ d os, (Sort.grow (redrawn w2 d) os).cell? ⟨jb, 5, none⟩ = some (.func (.func ghk) #[] chk) := fun d os => cell_regrown q2_5 d os
  refine wp_region_quiet_below (by kernel_rfl) (by kernel_rfl) ?_
  repeat (go_big_quiet_step (first
    | fail))
  refine wpQuiet_nil ?_
  intro w3 hw'
  obtain ⟨p, rfl⟩ := hw'
  have hb := below_regrown w2 p.d p.os
  clear q0_0' q0_1' q0_2' q1_0' q2_0' q2_1' q2_2' q2_3' q2_4' q2_5' q0_0 q0_1 q0_2 q1_0 q2_0 q2_1 q2_2 q2_3 q2_4 q2_5
  generalize Sort.grow (redrawn w2 p.d) p.os = w3 at *
  replace HG := Go.Lib.hid (HG.out.below hb)
  replace HE := Go.Lib.hid (HE.out.ext (below_ext hb t L))
  replace Hhk := Go.Lib.hid (ConSim.ext E.cf (prApp E.cf R0) E t Hhk.out (below_ext hb t L))
  replace HD := Go.Lib.hid (HD.out.trans (below_did hb t L))
  clear hb
  have q0_0 : w3.cell? ⟨w1.heap.size, 0, none⟩ = some (.int .i64 gn) := HE.out.cell 0 0 rfl rfl
  have q0_1 : w3.cell? ⟨w1.heap.size, 1, none⟩ = some (.int .i64 vn) := HE.out.cell 0 1 rfl rfl
  have q0_2 : w3.cell? ⟨w1.heap.size, 2, none⟩ = some (.int .i64 sn) := HE.out.cell 0 2 rfl rfl
  have q1_0 : w3.cell? ⟨bj, 0, none⟩ = some (.pointer (some ⟨jb, 0, none⟩)) := HE.out.cell 1 0 rfl rfl
  have q2_0 : w3.cell? ⟨jb, 0, none⟩ = some (.pointer (some ⟨E.k, 0, none⟩)) := HE.out.cell 2 0 rfl rfl
  have q2_1 : w3.cell? ⟨jb, 1, none⟩ = some (.int .i64 wk) := HE.out.cell 2 1 rfl rfl
  have q2_2 : w3.cell? ⟨jb, 2, none⟩ = some (.int .i64 s) := HE.out.cell 2 2 rfl rfl
  have q2_3 : w3.cell? ⟨jb, 3, none⟩ = some (.int .i64 n) := HE.out.cell 2 3 rfl rfl
  have q2_4 : w3.cell? ⟨jb, 4, none⟩ = some (.int .i64 g) := HE.out.cell 2 4 rfl rfl
  have q2_5 : w3.cell? ⟨jb, 5, none⟩ = some (.func (.func ghk) #[] chk) := HE.out.cell 2 5 rfl rfl
  go_wp2_with fail
  refine (mg_ticket (x := x) (v := 1) hR HG.out (HE.out.sub (env' := [(jb, [.pointer (some ⟨E.k, 0, none⟩), .int .i64 wk, .int .i64 s, .int .i64 n, .int .i64 g, .func (.func ghk) #[] chk])]) (by simp)) Hhk.out hw (by omega) hsb hnb).mono ?_
  rintro e w9 ⟨v2, L9, rfl, hd2, hg2, hc2⟩
  go_wp2
  go_ret
  exact ⟨v2, L9, rfl, HD.out.trans hd2, hg2, hc2⟩
theorem mg2_con (hR : RMono (prApp E.cf R0)) {m : Nat} {wk n g s : Int} {vk : Value} {k : PR ρ} {L : Lab} {w : World} {jb : Nat} {bj : Nat} (henv : Env L w [(bj, [.pointer (some ⟨jb, 0, none⟩)]), (jb, [.pointer (some ⟨E.k, 0, none⟩), .int .i64 wk, .int .i64 s, .int .i64 n, .int .i64 g, vk])]) (hk : ConSim E.cf (prApp E.cf R0) E t isE m L w vk (.ret k)) (hw : 0 ≤ wk) (hsb : 0 ≤ s ∧ s ≤ 4294967294) (hnb : 0 ≤ n ∧ n ≤ 4294967294) :
    ConSim E.cf (prApp E.cf R0) E t isW m L w (.func (.func 216) #[] #[.pointer (some ⟨bj, 0, none⟩)]) (.ret (.mg2 wk n g s k)) := by
  refine ⟨_, _, rfl, enters_of Tryz.func216 (by kernel_rfl) rfl, ?_⟩
  intro a L' w' S ha hx hg hbd
  cases a with
  | w x =>
    show Calls _ _ #[_, _] _ _
    rw [app_ret, prApp] at hbd ⊢
    by_cases h1 : ((part x 32 32 : Nat) : Int) = g
    · have hv : homeV x g = (part x 16 16 : Nat) := by unfold homeV; rw [if_pos h1]
      rw [hv] at hbd ⊢
      by_cases h2 : ((part x 16 16 : Nat) : Int) = 65535
      · rw [if_pos h2] at hbd ⊢; exact mg2_full hR hg (henv.ext hx) (ConSim.ext E.cf (prApp E.cf R0) E t hk hx) hw hsb hnb ha h1 h2 hbd
      · rw [if_neg h2]; exact mg2_next hR hg (henv.ext hx) (ConSim.ext E.cf (prApp E.cf R0) E t hk hx) hw hsb hnb ha h1 h2
    · have hv : homeV x g = 0 := by unfold homeV; rw [if_neg h1]
      rw [hv, if_neg (by decide), Int.zero_add]
      exact mg2_first hR hg (henv.ext hx) (ConSim.ext E.cf (prApp E.cf R0) E t hk hx) hw hsb hnb ha h1
  | _ => exact absurd ha (by simp [isW])
set_option maxHeartbeats 2000000 in
theorem mg_home (hR : RMono (prApp E.cf R0)) {m : Nat} {wk n g s : Int} {vk : Value} {k : PR ρ} {L : Lab} {w : World} {S : St} {jb : Nat}  (hg : Good E L S w) (henv : Env L w [(jb, [.pointer (some ⟨E.k, 0, none⟩), .int .i64 wk, .int .i64 s, .int .i64 n, .int .i64 g, vk])]) (hk : ConSim E.cf (prApp E.cf R0) E t isE m L w vk (.ret k)) (hw : 0 ≤ wk) (hsb : 0 ≤ s ∧ s ≤ 4294967294) (hnb : 0 ≤ n ∧ n ≤ 4294967294) :
    Calls Tryz.prog 143 #[.pointer (some ⟨jb, 0, none⟩)] w (Post E.cf (prApp E.cf R0) E t m L w ((S, some (.load (E.cf.home n) (.ret (.mg2 wk n g s k)))))) := by
  have HD := Go.Lib.hid (Did.refl t L w)
  have HG := Go.Lib.hid hg
  have HE := Go.Lib.hid henv
  obtain ⟨ghk, chk, hvhk, hgfhk, _⟩ := id hk
  subst hvhk
  have henhk : ∀ (args : Array Value) (w : World), (callFunc ghk args).run Tryz.prog w = .ok (.enter ghk args) w := hgfhk
  have Hhk := Go.Lib.hid hk
  clear hg henv hk hgfhk
  have hb0 : Below w.heap.size w (w.alloc (.cells #[.pointer (some ⟨jb, 0, none⟩)] 176)) := ((Below.refl _ _).alloc (Nat.le_refl _) _)
  have HE0 : Hid (Env L (w.alloc (.cells #[.pointer (some ⟨jb, 0, none⟩)] 176)) [(w.heap.size, [.pointer (some ⟨jb, 0, none⟩)]), (jb, [.pointer (some ⟨E.k, 0, none⟩), .int .i64 wk, .int .i64 s, .int .i64 n, .int .i64 g, .func (.func ghk) #[] chk])]) := Go.Lib.hid (Env.alloc_at HE.out (fun b hb => HG.out.new b (by first | exact hb | (simp at hb; omega))) [.pointer (some ⟨jb, 0, none⟩)] 176 (b := w.heap.size) (by first | rfl | (simp; done) | (simp; omega)))
  replace HG := Go.Lib.hid (HG.out.below hb0)
  replace HE := Go.Lib.hid (HE0.out)
  replace Hhk := Go.Lib.hid (ConSim.ext E.cf (prApp E.cf R0) E t Hhk.out (below_ext hb0 t L))
  replace HD := Go.Lib.hid (HD.out.trans (below_did hb0 t L))
  clear hb0 HE0
  have q0_0 : (w.alloc (.cells #[.pointer (some ⟨jb, 0, none⟩)] 176)).cell? ⟨w.heap.size, 0, none⟩ = some (.pointer (some ⟨jb, 0, none⟩)) := HE.out.cell 0 0 rfl rfl
  have q1_0 : (w.alloc (.cells #[.pointer (some ⟨jb, 0, none⟩)] 176)).cell? ⟨jb, 0, none⟩ = some (.pointer (some ⟨E.k, 0, none⟩)) := HE.out.cell 1 0 rfl rfl
  have q1_1 : (w.alloc (.cells #[.pointer (some ⟨jb, 0, none⟩)] 176)).cell? ⟨jb, 1, none⟩ = some (.int .i64 wk) := HE.out.cell 1 1 rfl rfl
  have q1_2 : (w.alloc (.cells #[.pointer (some ⟨jb, 0, none⟩)] 176)).cell? ⟨jb, 2, none⟩ = some (.int .i64 s) := HE.out.cell 1 2 rfl rfl
  have q1_3 : (w.alloc (.cells #[.pointer (some ⟨jb, 0, none⟩)] 176)).cell? ⟨jb, 3, none⟩ = some (.int .i64 n) := HE.out.cell 1 3 rfl rfl
  have q1_4 : (w.alloc (.cells #[.pointer (some ⟨jb, 0, none⟩)] 176)).cell? ⟨jb, 4, none⟩ = some (.int .i64 g) := HE.out.cell 1 4 rfl rfl
  have q1_5 : (w.alloc (.cells #[.pointer (some ⟨jb, 0, none⟩)] 176)).cell? ⟨jb, 5, none⟩ = some (.func (.func ghk) #[] chk) := HE.out.cell 1 5 rfl rfl
  go_enter Tryz.func143, Tryz.ntmps143
  go_wp2
  generalize (w.alloc (.cells #[.pointer (some ⟨jb, 0, none⟩)] 176)) = w0 at *
  have HCE := Go.Lib.hid (arm_cells HG.out)
  have HPL := Go.Lib.hid (arm_plan HG.out)
  have HHM := Go.Lib.hid (arm_home HG.out n)
  have q0_0' : ∀ d os, (Sort.grow (redrawn w0 d) os).cell? ⟨w.heap.size, 0, none⟩ = some (.pointer (some ⟨jb, 0, none⟩)) := fun d os => cell_regrown q0_0 d os
  have q1_0' : ∀ d os, (Sort.grow (redrawn w0 d) os).cell? ⟨jb, 0, none⟩ = some (.pointer (some ⟨E.k, 0, none⟩)) := fun d os => cell_regrown q1_0 d os
  have q1_1' : ∀ d os, (Sort.grow (redrawn w0 d) os).cell? ⟨jb, 1, none⟩ = some (.int .i64 wk) := fun d os => cell_regrown q1_1 d os
  have q1_2' : ∀ d os, (Sort.grow (redrawn w0 d) os).cell? ⟨jb, 2, none⟩ = some (.int .i64 s) := fun d os => cell_regrown q1_2 d os
  have q1_3' : ∀ d os, (Sort.grow (redrawn w0 d) os).cell? ⟨jb, 3, none⟩ = some (.int .i64 n) := fun d os => cell_regrown q1_3 d os
  have q1_4' : ∀ d os, (Sort.grow (redrawn w0 d) os).cell? ⟨jb, 4, none⟩ = some (.int .i64 g) := fun d os => cell_regrown q1_4 d os
  have q1_5' : ∀ d os, (Sort.grow (redrawn w0 d) os).cell? ⟨jb, 5, none⟩ = some (.func (.func ghk) #[] chk) := fun d os => cell_regrown q1_5 d os
  refine wp_region_below_tail 17 (by kernel_rfl) (by kernel_rfl) ?_
  simp only [List.take_succ_cons, List.take_zero, List.drop_succ_cons, List.drop_zero]
  repeat (go_big_quiet_step (first
    | (go_at_call 44; rename_i p; exact Calls.regrown_of (HCE.out _ (below_regrown w0 p.d p.os)))
    | (go_at_call 47; rename_i p; exact Calls.regrown_of (HPL.out _ (below_regrown w0 p.d p.os)))
    | (go_at_call 48; rename_i p; exact Calls.regrown_of (HHM.out _ (below_regrown w0 p.d p.os)))))
  refine wpQuiet_nil ?_
  intro w1 hw'
  obtain ⟨p, rfl⟩ := hw'
  have hb := below_regrown w0 p.d p.os
  clear q0_0' q1_0' q1_1' q1_2' q1_3' q1_4' q1_5' q0_0 q1_0 q1_1 q1_2 q1_3 q1_4 q1_5
  generalize Sort.grow (redrawn w0 p.d) p.os = w1 at *
  replace HG := Go.Lib.hid (HG.out.below hb)
  replace HE := Go.Lib.hid (HE.out.ext (below_ext hb t L))
  replace Hhk := Go.Lib.hid (ConSim.ext E.cf (prApp E.cf R0) E t Hhk.out (below_ext hb t L))
  replace HD := Go.Lib.hid (HD.out.trans (below_did hb t L))
  clear hb
  have q0_0 : w1.cell? ⟨w.heap.size, 0, none⟩ = some (.pointer (some ⟨jb, 0, none⟩)) := HE.out.cell 0 0 rfl rfl
  have q1_0 : w1.cell? ⟨jb, 0, none⟩ = some (.pointer (some ⟨E.k, 0, none⟩)) := HE.out.cell 1 0 rfl rfl
  have q1_1 : w1.cell? ⟨jb, 1, none⟩ = some (.int .i64 wk) := HE.out.cell 1 1 rfl rfl
  have q1_2 : w1.cell? ⟨jb, 2, none⟩ = some (.int .i64 s) := HE.out.cell 1 2 rfl rfl
  have q1_3 : w1.cell? ⟨jb, 3, none⟩ = some (.int .i64 n) := HE.out.cell 1 3 rfl rfl
  have q1_4 : w1.cell? ⟨jb, 4, none⟩ = some (.int .i64 g) := HE.out.cell 1 4 rfl rfl
  have q1_5 : w1.cell? ⟨jb, 5, none⟩ = some (.func (.func ghk) #[] chk) := HE.out.cell 1 5 rfl rfl
  have HT := Go.Lib.hid (load_at hR (i := E.cf.home n) HG.out (mg2_con (k := k) (bj := w.heap.size) hR (HE.out.sub (env' := [(w.heap.size, [.pointer (some ⟨jb, 0, none⟩)]), (jb, [.pointer (some ⟨E.k, 0, none⟩), .int .i64 wk, .int .i64 s, .int .i64 n, .int .i64 g, .func (.func ghk) #[] chk])]) (by simp)) Hhk.out hw hsb hnb))
  go_wp2_with fail
  refine (HT.out).mono ?_
  rintro e w9 ⟨v2, L9, rfl, hd2, hg2, hc2⟩
  go_wp2
  go_ret
  exact ⟨v2, L9, rfl, HD.out.trans hd2, hg2, hc2⟩
set_option maxHeartbeats 2000000 in
theorem mg1_no (hR : RMono (prApp E.cf R0)) {m : Nat} {wk n g s : Int} {vk : Value} {k : PR ρ} {L : Lab} {w : World} {S : St} {jb : Nat} {bj : Nat} {dl : Int} (hg : Good E L S w) (henv : Env L w [(bj, [.pointer (some ⟨jb, 0, none⟩)]), (jb, [.pointer (some ⟨E.k, 0, none⟩), .int .i64 wk, .int .i64 s, .int .i64 n, .int .i64 g, vk])]) (hk : ConSim E.cf (prApp E.cf R0) E t isE m L w vk (.ret k)) (hw : 0 ≤ wk) (hbd : Bd (prApp E.cf R0 k (.e 4) (S.note (migratePoint wk n g 4))).1) :
    Calls Tryz.prog 142 #[.int .i64 dl, .bool false, .pointer (some ⟨bj, 0, none⟩)] w (Post E.cf (prApp E.cf R0) E t m L w (prApp E.cf R0 k (.e 4) (S.note (migratePoint wk n g 4)))) := by
  have HD := Go.Lib.hid (Did.refl t L w)
  have HG := Go.Lib.hid hg
  have HE := Go.Lib.hid henv
  obtain ⟨ghk, chk, hvhk, hgfhk, _⟩ := id hk
  subst hvhk
  have henhk : ∀ (args : Array Value) (w : World), (callFunc ghk args).run Tryz.prog w = .ok (.enter ghk args) w := hgfhk
  have Hhk := Go.Lib.hid hk
  clear hg henv hk hgfhk
  have q0_0 : w.cell? ⟨bj, 0, none⟩ = some (.pointer (some ⟨jb, 0, none⟩)) := HE.out.cell 0 0 rfl rfl
  have q1_0 : w.cell? ⟨jb, 0, none⟩ = some (.pointer (some ⟨E.k, 0, none⟩)) := HE.out.cell 1 0 rfl rfl
  have q1_1 : w.cell? ⟨jb, 1, none⟩ = some (.int .i64 wk) := HE.out.cell 1 1 rfl rfl
  have q1_2 : w.cell? ⟨jb, 2, none⟩ = some (.int .i64 s) := HE.out.cell 1 2 rfl rfl
  have q1_3 : w.cell? ⟨jb, 3, none⟩ = some (.int .i64 n) := HE.out.cell 1 3 rfl rfl
  have q1_4 : w.cell? ⟨jb, 4, none⟩ = some (.int .i64 g) := HE.out.cell 1 4 rfl rfl
  have q1_5 : w.cell? ⟨jb, 5, none⟩ = some (.func (.func ghk) #[] chk) := HE.out.cell 1 5 rfl rfl
  go_enter Tryz.func142, Tryz.ntmps142
  go_wp2_with fail
  refine (mg_fail (er := 4) hR HG.out (HE.out.sub (env' := [(jb, [.pointer (some ⟨E.k, 0, none⟩), .int .i64 wk, .int .i64 s, .int .i64 n, .int .i64 g, .func (.func ghk) #[] chk])]) (by simp)) Hhk.out hw (by decide) hbd).mono ?_
  rintro e w9 ⟨v2, L9, rfl, hd2, hg2, hc2⟩
  go_wp2
  go_ret
  exact ⟨v2, L9, rfl, HD.out.trans hd2, hg2, hc2⟩
set_option maxHeartbeats 2000000 in
theorem mg1_yes (hR : RMono (prApp E.cf R0)) {m : Nat} {wk n g s : Int} {vk : Value} {k : PR ρ} {L : Lab} {w : World} {S : St} {jb : Nat} {bj : Nat} {dl : Int} (hg : Good E L S w) (henv : Env L w [(bj, [.pointer (some ⟨jb, 0, none⟩)]), (jb, [.pointer (some ⟨E.k, 0, none⟩), .int .i64 wk, .int .i64 s, .int .i64 n, .int .i64 g, vk])]) (hk : ConSim E.cf (prApp E.cf R0) E t isE m L w vk (.ret k)) (hw : 0 ≤ wk) (hsb : 0 ≤ s ∧ s ≤ 4294967294) (hnb : 0 ≤ n ∧ n ≤ 4294967294) :
    Calls Tryz.prog 142 #[.int .i64 dl, .bool true, .pointer (some ⟨bj, 0, none⟩)] w (Post E.cf (prApp E.cf R0) E t m L w ((S, some (.load (E.cf.home n) (.ret (.mg2 wk n g s k)))))) := by
  have HD := Go.Lib.hid (Did.refl t L w)
  have HG := Go.Lib.hid hg
  have HE := Go.Lib.hid henv
  obtain ⟨ghk, chk, hvhk, hgfhk, _⟩ := id hk
  subst hvhk
  have henhk : ∀ (args : Array Value) (w : World), (callFunc ghk args).run Tryz.prog w = .ok (.enter ghk args) w := hgfhk
  have Hhk := Go.Lib.hid hk
  clear hg henv hk hgfhk
  have q0_0 : w.cell? ⟨bj, 0, none⟩ = some (.pointer (some ⟨jb, 0, none⟩)) := HE.out.cell 0 0 rfl rfl
  have q1_0 : w.cell? ⟨jb, 0, none⟩ = some (.pointer (some ⟨E.k, 0, none⟩)) := HE.out.cell 1 0 rfl rfl
  have q1_1 : w.cell? ⟨jb, 1, none⟩ = some (.int .i64 wk) := HE.out.cell 1 1 rfl rfl
  have q1_2 : w.cell? ⟨jb, 2, none⟩ = some (.int .i64 s) := HE.out.cell 1 2 rfl rfl
  have q1_3 : w.cell? ⟨jb, 3, none⟩ = some (.int .i64 n) := HE.out.cell 1 3 rfl rfl
  have q1_4 : w.cell? ⟨jb, 4, none⟩ = some (.int .i64 g) := HE.out.cell 1 4 rfl rfl
  have q1_5 : w.cell? ⟨jb, 5, none⟩ = some (.func (.func ghk) #[] chk) := HE.out.cell 1 5 rfl rfl
  go_enter Tryz.func142, Tryz.ntmps142
  go_wp2_with fail
  refine (mg_home hR HG.out (HE.out.sub (env' := [(jb, [.pointer (some ⟨E.k, 0, none⟩), .int .i64 wk, .int .i64 s, .int .i64 n, .int .i64 g, .func (.func ghk) #[] chk])]) (by simp)) Hhk.out hw hsb hnb).mono ?_
  rintro e w9 ⟨v2, L9, rfl, hd2, hg2, hc2⟩
  go_wp2
  go_ret
  exact ⟨v2, L9, rfl, HD.out.trans hd2, hg2, hc2⟩
theorem mg1_arm (hR : RMono (prApp E.cf R0)) {m : Nat} {wk n g s : Int} {vk : Value} {k : PR ρ} {L : Lab} {w : World} {jb : Nat} {bj : Nat} (henv : Env L w [(bj, [.pointer (some ⟨jb, 0, none⟩)]), (jb, [.pointer (some ⟨E.k, 0, none⟩), .int .i64 wk, .int .i64 s, .int .i64 n, .int .i64 g, vk])]) (hk : ConSim E.cf (prApp E.cf R0) E t isE m L w vk (.ret k)) (hw : 0 ≤ wk) (hsb : 0 ≤ s ∧ s ≤ 4294967294) (hnb : 0 ≤ n ∧ n ≤ 4294967294) :
    ArmSim R0 E t g m L w (.func (.func 142) #[] #[.pointer (some ⟨bj, 0, none⟩)]) (.mg1 wk n g s k) := by
  refine ⟨_, _, rfl, enters_of Tryz.func142 (by kernel_rfl) rfl, ?_⟩
  intro y L' w' S hy hx hg hbd
  show Calls _ _ #[_, _, _] _ _
  rw [prApp] at hbd ⊢
  cases h : armedW y g with
  | true => rw [if_pos rfl]; exact mg1_yes hR hg (henv.ext hx) (ConSim.ext E.cf (prApp E.cf R0) E t hk hx) hw hsb hnb
  | false => rw [h, if_neg (by decide)] at hbd; rw [if_neg (by decide)]; exact mg1_no hR hg (henv.ext hx) (ConSim.ext E.cf (prApp E.cf R0) E t hk hx) hw hbd
set_option maxHeartbeats 4000000 in
theorem code_neg (hR : RMono (prApp E.cf R0)) {m : Nat} {wk n g s : Int} {vk : Value} {k : PR ρ} {L : Lab} {w : World} {S : St} (hg : Good E L S w) (hk : ConSim E.cf (prApp E.cf R0) E t isE m L w vk (.ret k)) (hw : 0 ≤ wk) (h1 : s < 0) :
    Calls Tryz.prog 42 #[.pointer (some ⟨E.k, 0, none⟩), .int .i64 wk, .agg #[.int .i64 n, .int .i64 g], .int .i64 s, vk] w (Post E.cf (prApp E.cf R0) E t m L w (S, some (.idle (.ret (.mg0 wk n g 1 k))))) := by
  have henv := Env.nil L w
  have hd1 : decide (s < 0) = true := by simp; omega
  have HD := Go.Lib.hid (Did.refl t L w)
  have HG := Go.Lib.hid hg
  have HE := Go.Lib.hid henv
  obtain ⟨ghk, chk, hvhk, hgfhk, _⟩ := id hk
  subst hvhk
  have henhk : ∀ (args : Array Value) (w : World), (callFunc ghk args).run Tryz.prog w = .ok (.enter ghk args) w := hgfhk
  have Hhk := Go.Lib.hid hk
  clear hg henv hk hgfhk
  have hb0 : Below w.heap.size w (((w.alloc (.cells #[.int .i64 n, .int .i64 g] 46)).alloc (.cells #[.pointer (some ⟨E.k, 0, none⟩), .int .i64 wk, .int .i64 s, .int .i64 n, .int .i64 g, .func (.func ghk) #[] chk] 178)).alloc (.cells #[.pointer (some ⟨w.heap.size + 1, 0, none⟩)] 176)) := ((((Below.refl _ _).alloc (Nat.le_refl _) _).alloc (by first | (simp; done) | (simp; omega)) _).alloc (by first | (simp; done) | (simp; omega)) _)
  have HE0 : Hid (Env L (((w.alloc (.cells #[.int .i64 n, .int .i64 g] 46)).alloc (.cells #[.pointer (some ⟨E.k, 0, none⟩), .int .i64 wk, .int .i64 s, .int .i64 n, .int .i64 g, .func (.func ghk) #[] chk] 178)).alloc (.cells #[.pointer (some ⟨w.heap.size + 1, 0, none⟩)] 176)) [(w.heap.size + 1 + 1, [.pointer (some ⟨w.heap.size + 1, 0, none⟩)]), (w.heap.size + 1, [.pointer (some ⟨E.k, 0, none⟩), .int .i64 wk, .int .i64 s, .int .i64 n, .int .i64 g, .func (.func ghk) #[] chk]), (w.heap.size, [.int .i64 n, .int .i64 g])]) := Go.Lib.hid (Env.alloc_at (Env.alloc_at (Env.alloc_at HE.out (fun b hb => HG.out.new b (by first | exact hb | (simp at hb; omega))) [.int .i64 n, .int .i64 g] 46 (b := w.heap.size) (by first | rfl | (simp; done) | (simp; omega))) (fun b hb => HG.out.new b (by first | exact hb | (simp at hb; omega))) [.pointer (some ⟨E.k, 0, none⟩), .int .i64 wk, .int .i64 s, .int .i64 n, .int .i64 g, .func (.func ghk) #[] chk] 178 (b := w.heap.size + 1) (by first | rfl | (simp; done) | (simp; omega))) (fun b hb => HG.out.new b (by first | exact hb | (simp at hb; omega))) [.pointer (some ⟨w.heap.size + 1, 0, none⟩)] 176 (b := w.heap.size + 1 + 1) (by first | rfl | (simp; done) | (simp; omega)))
  replace HG := Go.Lib.hid (HG.out.below hb0)
  replace HE := Go.Lib.hid (HE0.out)
  replace Hhk := Go.Lib.hid (ConSim.ext E.cf (prApp E.cf R0) E t Hhk.out (below_ext hb0 t L))
  replace HD := Go.Lib.hid (HD.out.trans (below_did hb0 t L))
  clear hb0 HE0
  have q0_0 : (((w.alloc (.cells #[.int .i64 n, .int .i64 g] 46)).alloc (.cells #[.pointer (some ⟨E.k, 0, none⟩), .int .i64 wk, .int .i64 s, .int .i64 n, .int .i64 g, .func (.func ghk) #[] chk] 178)).alloc (.cells #[.pointer (some ⟨w.heap.size + 1, 0, none⟩)] 176)).cell? ⟨w.heap.size + 1 + 1, 0, none⟩ = some (.pointer (some ⟨w.heap.size + 1, 0, none⟩)) := HE.out.cell 0 0 rfl rfl
  have q1_0 : (((w.alloc (.cells #[.int .i64 n, .int .i64 g] 46)).alloc (.cells #[.pointer (some ⟨E.k, 0, none⟩), .int .i64 wk, .int .i64 s, .int .i64 n, .int .i64 g, .func (.func ghk) #[] chk] 178)).alloc (.cells #[.pointer (some ⟨w.heap.size + 1, 0, none⟩)] 176)).cell? ⟨w.heap.size + 1, 0, none⟩ = some (.pointer (some ⟨E.k, 0, none⟩)) := HE.out.cell 1 0 rfl rfl
  have q1_1 : (((w.alloc (.cells #[.int .i64 n, .int .i64 g] 46)).alloc (.cells #[.pointer (some ⟨E.k, 0, none⟩), .int .i64 wk, .int .i64 s, .int .i64 n, .int .i64 g, .func (.func ghk) #[] chk] 178)).alloc (.cells #[.pointer (some ⟨w.heap.size + 1, 0, none⟩)] 176)).cell? ⟨w.heap.size + 1, 1, none⟩ = some (.int .i64 wk) := HE.out.cell 1 1 rfl rfl
  have q1_2 : (((w.alloc (.cells #[.int .i64 n, .int .i64 g] 46)).alloc (.cells #[.pointer (some ⟨E.k, 0, none⟩), .int .i64 wk, .int .i64 s, .int .i64 n, .int .i64 g, .func (.func ghk) #[] chk] 178)).alloc (.cells #[.pointer (some ⟨w.heap.size + 1, 0, none⟩)] 176)).cell? ⟨w.heap.size + 1, 2, none⟩ = some (.int .i64 s) := HE.out.cell 1 2 rfl rfl
  have q1_3 : (((w.alloc (.cells #[.int .i64 n, .int .i64 g] 46)).alloc (.cells #[.pointer (some ⟨E.k, 0, none⟩), .int .i64 wk, .int .i64 s, .int .i64 n, .int .i64 g, .func (.func ghk) #[] chk] 178)).alloc (.cells #[.pointer (some ⟨w.heap.size + 1, 0, none⟩)] 176)).cell? ⟨w.heap.size + 1, 3, none⟩ = some (.int .i64 n) := HE.out.cell 1 3 rfl rfl
  have q1_4 : (((w.alloc (.cells #[.int .i64 n, .int .i64 g] 46)).alloc (.cells #[.pointer (some ⟨E.k, 0, none⟩), .int .i64 wk, .int .i64 s, .int .i64 n, .int .i64 g, .func (.func ghk) #[] chk] 178)).alloc (.cells #[.pointer (some ⟨w.heap.size + 1, 0, none⟩)] 176)).cell? ⟨w.heap.size + 1, 4, none⟩ = some (.int .i64 g) := HE.out.cell 1 4 rfl rfl
  have q1_5 : (((w.alloc (.cells #[.int .i64 n, .int .i64 g] 46)).alloc (.cells #[.pointer (some ⟨E.k, 0, none⟩), .int .i64 wk, .int .i64 s, .int .i64 n, .int .i64 g, .func (.func ghk) #[] chk] 178)).alloc (.cells #[.pointer (some ⟨w.heap.size + 1, 0, none⟩)] 176)).cell? ⟨w.heap.size + 1, 5, none⟩ = some (.func (.func ghk) #[] chk) := HE.out.cell 1 5 rfl rfl
  have q2_0 : (((w.alloc (.cells #[.int .i64 n, .int .i64 g] 46)).alloc (.cells #[.pointer (some ⟨E.k, 0, none⟩), .int .i64 wk, .int .i64 s, .int .i64 n, .int .i64 g, .func (.func ghk) #[] chk] 178)).alloc (.cells #[.pointer (some ⟨w.heap.size + 1, 0, none⟩)] 176)).cell? ⟨w.heap.size, 0, none⟩ = some (.int .i64 n) := HE.out.cell 2 0 rfl rfl
  have q2_1 : (((w.alloc (.cells #[.int .i64 n, .int .i64 g] 46)).alloc (.cells #[.pointer (some ⟨E.k, 0, none⟩), .int .i64 wk, .int .i64 s, .int .i64 n, .int .i64 g, .func (.func ghk) #[] chk] 178)).alloc (.cells #[.pointer (some ⟨w.heap.size + 1, 0, none⟩)] 176)).cell? ⟨w.heap.size, 1, none⟩ = some (.int .i64 g) := HE.out.cell 2 1 rfl rfl
  go_enter Tryz.func42, Tryz.ntmps42
  go_wp2_with fail
  generalize (((w.alloc (.cells #[.int .i64 n, .int .i64 g] 46)).alloc (.cells #[.pointer (some ⟨E.k, 0, none⟩), .int .i64 wk, .int .i64 s, .int .i64 n, .int .i64 g, .func (.func ghk) #[] chk] 178)).alloc (.cells #[.pointer (some ⟨w.heap.size + 1, 0, none⟩)] 176)) = w0 at *
  refine (idle_at HG.out (mg0_con1 (bj := w.heap.size + 1 + 1) (k := k) hR (HE.out.sub (env' := [(w.heap.size + 1 + 1, [.pointer (some ⟨w.heap.size + 1, 0, none⟩)]), (w.heap.size + 1, [.pointer (some ⟨E.k, 0, none⟩), .int .i64 wk, .int .i64 s, .int .i64 n, .int .i64 g, .func (.func ghk) #[] chk])]) (by simp)) Hhk.out hw)).mono ?_
  rintro e w9 ⟨v2, L9, rfl, hd2, hg2, hc2⟩
  go_wp2
  go_ret
  exact ⟨v2, L9, rfl, HD.out.trans hd2, hg2, hc2⟩
set_option maxHeartbeats 4000000 in
theorem code_far (hR : RMono (prApp E.cf R0)) {m : Nat} {wk n g s : Int} {vk : Value} {k : PR ρ} {L : Lab} {w : World} {S : St} (hg : Good E L S w) (hk : ConSim E.cf (prApp E.cf R0) E t isE m L w vk (.ret k)) (hw : 0 ≤ wk) (h1 : ¬ s < 0) (h2 : (E.cf.workers : Int) ≤ s) :
    Calls Tryz.prog 42 #[.pointer (some ⟨E.k, 0, none⟩), .int .i64 wk, .agg #[.int .i64 n, .int .i64 g], .int .i64 s, vk] w (Post E.cf (prApp E.cf R0) E t m L w (S, some (.idle (.ret (.mg0 wk n g 1 k))))) := by
  have henv := Env.nil L w
  have hd1 : decide (s < 0) = false := by simp; omega
  have hd2 : decide ((E.cf.workers : Int) ≤ s) = true := by simp; omega
  have HD := Go.Lib.hid (Did.refl t L w)
  have HG := Go.Lib.hid hg
  have HE := Go.Lib.hid henv
  obtain ⟨ghk, chk, hvhk, hgfhk, _⟩ := id hk
  subst hvhk
  have henhk : ∀ (args : Array Value) (w : World), (callFunc ghk args).run Tryz.prog w = .ok (.enter ghk args) w := hgfhk
  have Hhk := Go.Lib.hid hk
  clear hg henv hk hgfhk
  have hfld : ∀ w, (Instr.field 126 (.agg E.cf.vals) 0).run Tryz.prog w = .ok (.int .i64 E.cf.workers) w := fun _ => by kernel_rfl
  have hb0 : Below w.heap.size w (((w.alloc (.cells #[.int .i64 n, .int .i64 g] 46)).alloc (.cells #[.pointer (some ⟨E.k, 0, none⟩), .int .i64 wk, .int .i64 s, .int .i64 n, .int .i64 g, .func (.func ghk) #[] chk] 178)).alloc (.cells #[.pointer (some ⟨w.heap.size + 1, 0, none⟩)] 176)) := ((((Below.refl _ _).alloc (Nat.le_refl _) _).alloc (by first | (simp; done) | (simp; omega)) _).alloc (by first | (simp; done) | (simp; omega)) _)
  have HE0 : Hid (Env L (((w.alloc (.cells #[.int .i64 n, .int .i64 g] 46)).alloc (.cells #[.pointer (some ⟨E.k, 0, none⟩), .int .i64 wk, .int .i64 s, .int .i64 n, .int .i64 g, .func (.func ghk) #[] chk] 178)).alloc (.cells #[.pointer (some ⟨w.heap.size + 1, 0, none⟩)] 176)) [(w.heap.size + 1 + 1, [.pointer (some ⟨w.heap.size + 1, 0, none⟩)]), (w.heap.size + 1, [.pointer (some ⟨E.k, 0, none⟩), .int .i64 wk, .int .i64 s, .int .i64 n, .int .i64 g, .func (.func ghk) #[] chk]), (w.heap.size, [.int .i64 n, .int .i64 g])]) := Go.Lib.hid (Env.alloc_at (Env.alloc_at (Env.alloc_at HE.out (fun b hb => HG.out.new b (by first | exact hb | (simp at hb; omega))) [.int .i64 n, .int .i64 g] 46 (b := w.heap.size) (by first | rfl | (simp; done) | (simp; omega))) (fun b hb => HG.out.new b (by first | exact hb | (simp at hb; omega))) [.pointer (some ⟨E.k, 0, none⟩), .int .i64 wk, .int .i64 s, .int .i64 n, .int .i64 g, .func (.func ghk) #[] chk] 178 (b := w.heap.size + 1) (by first | rfl | (simp; done) | (simp; omega))) (fun b hb => HG.out.new b (by first | exact hb | (simp at hb; omega))) [.pointer (some ⟨w.heap.size + 1, 0, none⟩)] 176 (b := w.heap.size + 1 + 1) (by first | rfl | (simp; done) | (simp; omega)))
  replace HG := Go.Lib.hid (HG.out.below hb0)
  replace HE := Go.Lib.hid (HE0.out)
  replace Hhk := Go.Lib.hid (ConSim.ext E.cf (prApp E.cf R0) E t Hhk.out (below_ext hb0 t L))
  replace HD := Go.Lib.hid (HD.out.trans (below_did hb0 t L))
  clear hb0 HE0
  have q0_0 : (((w.alloc (.cells #[.int .i64 n, .int .i64 g] 46)).alloc (.cells #[.pointer (some ⟨E.k, 0, none⟩), .int .i64 wk, .int .i64 s, .int .i64 n, .int .i64 g, .func (.func ghk) #[] chk] 178)).alloc (.cells #[.pointer (some ⟨w.heap.size + 1, 0, none⟩)] 176)).cell? ⟨w.heap.size + 1 + 1, 0, none⟩ = some (.pointer (some ⟨w.heap.size + 1, 0, none⟩)) := HE.out.cell 0 0 rfl rfl
  have q1_0 : (((w.alloc (.cells #[.int .i64 n, .int .i64 g] 46)).alloc (.cells #[.pointer (some ⟨E.k, 0, none⟩), .int .i64 wk, .int .i64 s, .int .i64 n, .int .i64 g, .func (.func ghk) #[] chk] 178)).alloc (.cells #[.pointer (some ⟨w.heap.size + 1, 0, none⟩)] 176)).cell? ⟨w.heap.size + 1, 0, none⟩ = some (.pointer (some ⟨E.k, 0, none⟩)) := HE.out.cell 1 0 rfl rfl
  have q1_1 : (((w.alloc (.cells #[.int .i64 n, .int .i64 g] 46)).alloc (.cells #[.pointer (some ⟨E.k, 0, none⟩), .int .i64 wk, .int .i64 s, .int .i64 n, .int .i64 g, .func (.func ghk) #[] chk] 178)).alloc (.cells #[.pointer (some ⟨w.heap.size + 1, 0, none⟩)] 176)).cell? ⟨w.heap.size + 1, 1, none⟩ = some (.int .i64 wk) := HE.out.cell 1 1 rfl rfl
  have q1_2 : (((w.alloc (.cells #[.int .i64 n, .int .i64 g] 46)).alloc (.cells #[.pointer (some ⟨E.k, 0, none⟩), .int .i64 wk, .int .i64 s, .int .i64 n, .int .i64 g, .func (.func ghk) #[] chk] 178)).alloc (.cells #[.pointer (some ⟨w.heap.size + 1, 0, none⟩)] 176)).cell? ⟨w.heap.size + 1, 2, none⟩ = some (.int .i64 s) := HE.out.cell 1 2 rfl rfl
  have q1_3 : (((w.alloc (.cells #[.int .i64 n, .int .i64 g] 46)).alloc (.cells #[.pointer (some ⟨E.k, 0, none⟩), .int .i64 wk, .int .i64 s, .int .i64 n, .int .i64 g, .func (.func ghk) #[] chk] 178)).alloc (.cells #[.pointer (some ⟨w.heap.size + 1, 0, none⟩)] 176)).cell? ⟨w.heap.size + 1, 3, none⟩ = some (.int .i64 n) := HE.out.cell 1 3 rfl rfl
  have q1_4 : (((w.alloc (.cells #[.int .i64 n, .int .i64 g] 46)).alloc (.cells #[.pointer (some ⟨E.k, 0, none⟩), .int .i64 wk, .int .i64 s, .int .i64 n, .int .i64 g, .func (.func ghk) #[] chk] 178)).alloc (.cells #[.pointer (some ⟨w.heap.size + 1, 0, none⟩)] 176)).cell? ⟨w.heap.size + 1, 4, none⟩ = some (.int .i64 g) := HE.out.cell 1 4 rfl rfl
  have q1_5 : (((w.alloc (.cells #[.int .i64 n, .int .i64 g] 46)).alloc (.cells #[.pointer (some ⟨E.k, 0, none⟩), .int .i64 wk, .int .i64 s, .int .i64 n, .int .i64 g, .func (.func ghk) #[] chk] 178)).alloc (.cells #[.pointer (some ⟨w.heap.size + 1, 0, none⟩)] 176)).cell? ⟨w.heap.size + 1, 5, none⟩ = some (.func (.func ghk) #[] chk) := HE.out.cell 1 5 rfl rfl
  have q2_0 : (((w.alloc (.cells #[.int .i64 n, .int .i64 g] 46)).alloc (.cells #[.pointer (some ⟨E.k, 0, none⟩), .int .i64 wk, .int .i64 s, .int .i64 n, .int .i64 g, .func (.func ghk) #[] chk] 178)).alloc (.cells #[.pointer (some ⟨w.heap.size + 1, 0, none⟩)] 176)).cell? ⟨w.heap.size, 0, none⟩ = some (.int .i64 n) := HE.out.cell 2 0 rfl rfl
  have q2_1 : (((w.alloc (.cells #[.int .i64 n, .int .i64 g] 46)).alloc (.cells #[.pointer (some ⟨E.k, 0, none⟩), .int .i64 wk, .int .i64 s, .int .i64 n, .int .i64 g, .func (.func ghk) #[] chk] 178)).alloc (.cells #[.pointer (some ⟨w.heap.size + 1, 0, none⟩)] 176)).cell? ⟨w.heap.size, 1, none⟩ = some (.int .i64 g) := HE.out.cell 2 1 rfl rfl
  go_enter Tryz.func42, Tryz.ntmps42
  go_wp2_with fail
  generalize (((w.alloc (.cells #[.int .i64 n, .int .i64 g] 46)).alloc (.cells #[.pointer (some ⟨E.k, 0, none⟩), .int .i64 wk, .int .i64 s, .int .i64 n, .int .i64 g, .func (.func ghk) #[] chk] 178)).alloc (.cells #[.pointer (some ⟨w.heap.size + 1, 0, none⟩)] 176)) = w0 at *
  refine (core_config HG.out).mono ?_
  rintro e w1 ⟨rfl, hb⟩
  clear q0_0 q1_0 q1_1 q1_2 q1_3 q1_4 q1_5 q2_0 q2_1
  replace HG := Go.Lib.hid (HG.out.below hb)
  replace HE := Go.Lib.hid (HE.out.ext (below_ext hb t L))
  replace Hhk := Go.Lib.hid (ConSim.ext E.cf (prApp E.cf R0) E t Hhk.out (below_ext hb t L))
  replace HD := Go.Lib.hid (HD.out.trans (below_did hb t L))
  clear hb
  have q0_0 : w1.cell? ⟨w.heap.size + 1 + 1, 0, none⟩ = some (.pointer (some ⟨w.heap.size + 1, 0, none⟩)) := HE.out.cell 0 0 rfl rfl
  have q1_0 : w1.cell? ⟨w.heap.size + 1, 0, none⟩ = some (.pointer (some ⟨E.k, 0, none⟩)) := HE.out.cell 1 0 rfl rfl
  have q1_1 : w1.cell? ⟨w.heap.size + 1, 1, none⟩ = some (.int .i64 wk) := HE.out.cell 1 1 rfl rfl
  have q1_2 : w1.cell? ⟨w.heap.size + 1, 2, none⟩ = some (.int .i64 s) := HE.out.cell 1 2 rfl rfl
  have q1_3 : w1.cell? ⟨w.heap.size + 1, 3, none⟩ = some (.int .i64 n) := HE.out.cell 1 3 rfl rfl
  have q1_4 : w1.cell? ⟨w.heap.size + 1, 4, none⟩ = some (.int .i64 g) := HE.out.cell 1 4 rfl rfl
  have q1_5 : w1.cell? ⟨w.heap.size + 1, 5, none⟩ = some (.func (.func ghk) #[] chk) := HE.out.cell 1 5 rfl rfl
  have q2_0 : w1.cell? ⟨w.heap.size, 0, none⟩ = some (.int .i64 n) := HE.out.cell 2 0 rfl rfl
  have q2_1 : w1.cell? ⟨w.heap.size, 1, none⟩ = some (.int .i64 g) := HE.out.cell 2 1 rfl rfl
  generalize E.cf.vals = vv at *
  go_wp2_with fail
  refine (idle_at HG.out (mg0_con1 (bj := w.heap.size + 1 + 1) (k := k) hR (HE.out.sub (env' := [(w.heap.size + 1 + 1, [.pointer (some ⟨w.heap.size + 1, 0, none⟩)]), (w.heap.size + 1, [.pointer (some ⟨E.k, 0, none⟩), .int .i64 wk, .int .i64 s, .int .i64 n, .int .i64 g, .func (.func ghk) #[] chk])]) (by simp)) Hhk.out hw)).mono ?_
  rintro e w9 ⟨v2, L9, rfl, hd2, hg2, hc2⟩
  go_wp2
  go_ret
  exact ⟨v2, L9, rfl, HD.out.trans hd2, hg2, hc2⟩
set_option maxHeartbeats 4000000 in
theorem code_none (hR : RMono (prApp E.cf R0)) {m : Nat} {wk n g s : Int} {vk : Value} {k : PR ρ} {L : Lab} {w : World} {S : St} (hg : Good E L S w) (hk : ConSim E.cf (prApp E.cf R0) E t isE m L w vk (.ret k)) (hw : 0 ≤ wk) (h1 : ¬ s < 0) (h2 : ¬ (E.cf.workers : Int) ≤ s) (h3 : E.cf.state n < 0) :
    Calls Tryz.prog 42 #[.pointer (some ⟨E.k, 0, none⟩), .int .i64 wk, .agg #[.int .i64 n, .int .i64 g], .int .i64 s, vk] w (Post E.cf (prApp E.cf R0) E t m L w (S, some (.idle (.ret (.mg0 wk n g 4 k))))) := by
  have henv := Env.nil L w
  have hd1 : decide (s < 0) = false := by simp; omega
  have hd2 : decide ((E.cf.workers : Int) ≤ s) = false := by simp; omega
  have hd3 : decide (E.cf.state n < 0) = true := decide_eq_true h3
  have HD := Go.Lib.hid (Did.refl t L w)
  have HG := Go.Lib.hid hg
  have HE := Go.Lib.hid henv
  obtain ⟨ghk, chk, hvhk, hgfhk, _⟩ := id hk
  subst hvhk
  have henhk : ∀ (args : Array Value) (w : World), (callFunc ghk args).run Tryz.prog w = .ok (.enter ghk args) w := hgfhk
  have Hhk := Go.Lib.hid hk
  clear hg henv hk hgfhk
  have hfld : ∀ w, (Instr.field 126 (.agg E.cf.vals) 0).run Tryz.prog w = .ok (.int .i64 E.cf.workers) w := fun _ => by kernel_rfl
  have hb0 : Below w.heap.size w (((w.alloc (.cells #[.int .i64 n, .int .i64 g] 46)).alloc (.cells #[.pointer (some ⟨E.k, 0, none⟩), .int .i64 wk, .int .i64 s, .int .i64 n, .int .i64 g, .func (.func ghk) #[] chk] 178)).alloc (.cells #[.pointer (some ⟨w.heap.size + 1, 0, none⟩)] 176)) := ((((Below.refl _ _).alloc (Nat.le_refl _) _).alloc (by first | (simp; done) | (simp; omega)) _).alloc (by first | (simp; done) | (simp; omega)) _)
  have HE0 : Hid (Env L (((w.alloc (.cells #[.int .i64 n, .int .i64 g] 46)).alloc (.cells #[.pointer (some ⟨E.k, 0, none⟩), .int .i64 wk, .int .i64 s, .int .i64 n, .int .i64 g, .func (.func ghk) #[] chk] 178)).alloc (.cells #[.pointer (some ⟨w.heap.size + 1, 0, none⟩)] 176)) [(w.heap.size + 1 + 1, [.pointer (some ⟨w.heap.size + 1, 0, none⟩)]), (w.heap.size + 1, [.pointer (some ⟨E.k, 0, none⟩), .int .i64 wk, .int .i64 s, .int .i64 n, .int .i64 g, .func (.func ghk) #[] chk]), (w.heap.size, [.int .i64 n, .int .i64 g])]) := Go.Lib.hid (Env.alloc_at (Env.alloc_at (Env.alloc_at HE.out (fun b hb => HG.out.new b (by first | exact hb | (simp at hb; omega))) [.int .i64 n, .int .i64 g] 46 (b := w.heap.size) (by first | rfl | (simp; done) | (simp; omega))) (fun b hb => HG.out.new b (by first | exact hb | (simp at hb; omega))) [.pointer (some ⟨E.k, 0, none⟩), .int .i64 wk, .int .i64 s, .int .i64 n, .int .i64 g, .func (.func ghk) #[] chk] 178 (b := w.heap.size + 1) (by first | rfl | (simp; done) | (simp; omega))) (fun b hb => HG.out.new b (by first | exact hb | (simp at hb; omega))) [.pointer (some ⟨w.heap.size + 1, 0, none⟩)] 176 (b := w.heap.size + 1 + 1) (by first | rfl | (simp; done) | (simp; omega)))
  replace HG := Go.Lib.hid (HG.out.below hb0)
  replace HE := Go.Lib.hid (HE0.out)
  replace Hhk := Go.Lib.hid (ConSim.ext E.cf (prApp E.cf R0) E t Hhk.out (below_ext hb0 t L))
  replace HD := Go.Lib.hid (HD.out.trans (below_did hb0 t L))
  clear hb0 HE0
  have q0_0 : (((w.alloc (.cells #[.int .i64 n, .int .i64 g] 46)).alloc (.cells #[.pointer (some ⟨E.k, 0, none⟩), .int .i64 wk, .int .i64 s, .int .i64 n, .int .i64 g, .func (.func ghk) #[] chk] 178)).alloc (.cells #[.pointer (some ⟨w.heap.size + 1, 0, none⟩)] 176)).cell? ⟨w.heap.size + 1 + 1, 0, none⟩ = some (.pointer (some ⟨w.heap.size + 1, 0, none⟩)) := HE.out.cell 0 0 rfl rfl
  have q1_0 : (((w.alloc (.cells #[.int .i64 n, .int .i64 g] 46)).alloc (.cells #[.pointer (some ⟨E.k, 0, none⟩), .int .i64 wk, .int .i64 s, .int .i64 n, .int .i64 g, .func (.func ghk) #[] chk] 178)).alloc (.cells #[.pointer (some ⟨w.heap.size + 1, 0, none⟩)] 176)).cell? ⟨w.heap.size + 1, 0, none⟩ = some (.pointer (some ⟨E.k, 0, none⟩)) := HE.out.cell 1 0 rfl rfl
  have q1_1 : (((w.alloc (.cells #[.int .i64 n, .int .i64 g] 46)).alloc (.cells #[.pointer (some ⟨E.k, 0, none⟩), .int .i64 wk, .int .i64 s, .int .i64 n, .int .i64 g, .func (.func ghk) #[] chk] 178)).alloc (.cells #[.pointer (some ⟨w.heap.size + 1, 0, none⟩)] 176)).cell? ⟨w.heap.size + 1, 1, none⟩ = some (.int .i64 wk) := HE.out.cell 1 1 rfl rfl
  have q1_2 : (((w.alloc (.cells #[.int .i64 n, .int .i64 g] 46)).alloc (.cells #[.pointer (some ⟨E.k, 0, none⟩), .int .i64 wk, .int .i64 s, .int .i64 n, .int .i64 g, .func (.func ghk) #[] chk] 178)).alloc (.cells #[.pointer (some ⟨w.heap.size + 1, 0, none⟩)] 176)).cell? ⟨w.heap.size + 1, 2, none⟩ = some (.int .i64 s) := HE.out.cell 1 2 rfl rfl
  have q1_3 : (((w.alloc (.cells #[.int .i64 n, .int .i64 g] 46)).alloc (.cells #[.pointer (some ⟨E.k, 0, none⟩), .int .i64 wk, .int .i64 s, .int .i64 n, .int .i64 g, .func (.func ghk) #[] chk] 178)).alloc (.cells #[.pointer (some ⟨w.heap.size + 1, 0, none⟩)] 176)).cell? ⟨w.heap.size + 1, 3, none⟩ = some (.int .i64 n) := HE.out.cell 1 3 rfl rfl
  have q1_4 : (((w.alloc (.cells #[.int .i64 n, .int .i64 g] 46)).alloc (.cells #[.pointer (some ⟨E.k, 0, none⟩), .int .i64 wk, .int .i64 s, .int .i64 n, .int .i64 g, .func (.func ghk) #[] chk] 178)).alloc (.cells #[.pointer (some ⟨w.heap.size + 1, 0, none⟩)] 176)).cell? ⟨w.heap.size + 1, 4, none⟩ = some (.int .i64 g) := HE.out.cell 1 4 rfl rfl
  have q1_5 : (((w.alloc (.cells #[.int .i64 n, .int .i64 g] 46)).alloc (.cells #[.pointer (some ⟨E.k, 0, none⟩), .int .i64 wk, .int .i64 s, .int .i64 n, .int .i64 g, .func (.func ghk) #[] chk] 178)).alloc (.cells #[.pointer (some ⟨w.heap.size + 1, 0, none⟩)] 176)).cell? ⟨w.heap.size + 1, 5, none⟩ = some (.func (.func ghk) #[] chk) := HE.out.cell 1 5 rfl rfl
  have q2_0 : (((w.alloc (.cells #[.int .i64 n, .int .i64 g] 46)).alloc (.cells #[.pointer (some ⟨E.k, 0, none⟩), .int .i64 wk, .int .i64 s, .int .i64 n, .int .i64 g, .func (.func ghk) #[] chk] 178)).alloc (.cells #[.pointer (some ⟨w.heap.size + 1, 0, none⟩)] 176)).cell? ⟨w.heap.size, 0, none⟩ = some (.int .i64 n) := HE.out.cell 2 0 rfl rfl
  have q2_1 : (((w.alloc (.cells #[.int .i64 n, .int .i64 g] 46)).alloc (.cells #[.pointer (some ⟨E.k, 0, none⟩), .int .i64 wk, .int .i64 s, .int .i64 n, .int .i64 g, .func (.func ghk) #[] chk] 178)).alloc (.cells #[.pointer (some ⟨w.heap.size + 1, 0, none⟩)] 176)).cell? ⟨w.heap.size, 1, none⟩ = some (.int .i64 g) := HE.out.cell 2 1 rfl rfl
  go_enter Tryz.func42, Tryz.ntmps42
  go_wp2_with fail
  generalize (((w.alloc (.cells #[.int .i64 n, .int .i64 g] 46)).alloc (.cells #[.pointer (some ⟨E.k, 0, none⟩), .int .i64 wk, .int .i64 s, .int .i64 n, .int .i64 g, .func (.func ghk) #[] chk] 178)).alloc (.cells #[.pointer (some ⟨w.heap.size + 1, 0, none⟩)] 176)) = w0 at *
  refine (core_config HG.out).mono ?_
  rintro e w1 ⟨rfl, hb⟩
  clear q0_0 q1_0 q1_1 q1_2 q1_3 q1_4 q1_5 q2_0 q2_1
  replace HG := Go.Lib.hid (HG.out.below hb)
  replace HE := Go.Lib.hid (HE.out.ext (below_ext hb t L))
  replace Hhk := Go.Lib.hid (ConSim.ext E.cf (prApp E.cf R0) E t Hhk.out (below_ext hb t L))
  replace HD := Go.Lib.hid (HD.out.trans (below_did hb t L))
  clear hb
  have q0_0 : w1.cell? ⟨w.heap.size + 1 + 1, 0, none⟩ = some (.pointer (some ⟨w.heap.size + 1, 0, none⟩)) := HE.out.cell 0 0 rfl rfl
  have q1_0 : w1.cell? ⟨w.heap.size + 1, 0, none⟩ = some (.pointer (some ⟨E.k, 0, none⟩)) := HE.out.cell 1 0 rfl rfl
  have q1_1 : w1.cell? ⟨w.heap.size + 1, 1, none⟩ = some (.int .i64 wk) := HE.out.cell 1 1 rfl rfl
  have q1_2 : w1.cell? ⟨w.heap.size + 1, 2, none⟩ = some (.int .i64 s) := HE.out.cell 1 2 rfl rfl
  have q1_3 : w1.cell? ⟨w.heap.size + 1, 3, none⟩ = some (.int .i64 n) := HE.out.cell 1 3 rfl rfl
  have q1_4 : w1.cell? ⟨w.heap.size + 1, 4, none⟩ = some (.int .i64 g) := HE.out.cell 1 4 rfl rfl
  have q1_5 : w1.cell? ⟨w.heap.size + 1, 5, none⟩ = some (.func (.func ghk) #[] chk) := HE.out.cell 1 5 rfl rfl
  have q2_0 : w1.cell? ⟨w.heap.size, 0, none⟩ = some (.int .i64 n) := HE.out.cell 2 0 rfl rfl
  have q2_1 : w1.cell? ⟨w.heap.size, 1, none⟩ = some (.int .i64 g) := HE.out.cell 2 1 rfl rfl
  generalize E.cf.vals = vv at *
  have HPL := Go.Lib.hid (arm_plan HG.out)
  have HSA := Go.Lib.hid (arm_state HG.out n)
  go_wp2
  have q0_0' : ∀ d os, (Sort.grow (redrawn w1 d) os).cell? ⟨w.heap.size + 1 + 1, 0, none⟩ = some (.pointer (some ⟨w.heap.size + 1, 0, none⟩)) := fun d os => cell_regrown q0_0 d os
  have q1_0' : ∀ d os, (Sort.grow (redrawn w1 d) os).cell? ⟨w.heap.size + 1, 0, none⟩ = some (.pointer (some ⟨E.k, 0, none⟩)) := fun d os => cell_regrown q1_0 d os
  have q1_1' : ∀ d os, (Sort.grow (redrawn w1 d) os).cell? ⟨w.heap.size + 1, 1, none⟩ = some (.int .i64 wk) := fun d os => cell_regrown q1_1 d os
  have q1_2' : ∀ d os, (Sort.grow (redrawn w1 d) os).cell? ⟨w.heap.size + 1, 2, none⟩ = some (.int .i64 s) := fun d os => cell_regrown q1_2 d os
  have q1_3' : ∀ d os, (Sort.grow (redrawn w1 d) os).cell? ⟨w.heap.size + 1, 3, none⟩ = some (.int .i64 n) := fun d os => cell_regrown q1_3 d os
  have q1_4' : ∀ d os, (Sort.grow (redrawn w1 d) os).cell? ⟨w.heap.size + 1, 4, none⟩ = some (.int .i64 g) := fun d os => cell_regrown q1_4 d os
  have q1_5' : ∀ d os, (Sort.grow (redrawn w1 d) os).cell? ⟨w.heap.size + 1, 5, none⟩ = some (.func (.func ghk) #[] chk) := fun d os => cell_regrown q1_5 d os
  have q2_0' : ∀ d os, (Sort.grow (redrawn w1 d) os).cell? ⟨w.heap.size, 0, none⟩ = some (.int .i64 n) := fun d os => cell_regrown q2_0 d os
  have q2_1' : ∀ d os, (Sort.grow (redrawn w1 d) os).cell? ⟨w.heap.size, 1, none⟩ = some (.int .i64 g) := fun d os => cell_regrown q2_1 d os
  refine wp_region_quiet_below (by kernel_rfl) (by kernel_rfl) ?_
  repeat (go_big_quiet_step (first
    | (go_at_call 47; rename_i p; exact Calls.regrown_of (HPL.out _ (below_regrown w1 p.d p.os)))
    | (go_at_call 139; rename_i p; exact Calls.regrown_of (HSA.out _ (below_regrown w1 p.d p.os)))))
  refine wpQuiet_nil ?_
  intro w2 hw'
  obtain ⟨p, rfl⟩ := hw'
  have hb := below_regrown w1 p.d p.os
  clear q0_0' q1_0' q1_1' q1_2' q1_3' q1_4' q1_5' q2_0' q2_1' q0_0 q1_0 q1_1 q1_2 q1_3 q1_4 q1_5 q2_0 q2_1
  generalize Sort.grow (redrawn w1 p.d) p.os = w2 at *
  replace HG := Go.Lib.hid (HG.out.below hb)
  replace HE := Go.Lib.hid (HE.out.ext (below_ext hb t L))
  replace Hhk := Go.Lib.hid (ConSim.ext E.cf (prApp E.cf R0) E t Hhk.out (below_ext hb t L))
  replace HD := Go.Lib.hid (HD.out.trans (below_did hb t L))
  clear hb
  have q0_0 : w2.cell? ⟨w.heap.size + 1 + 1, 0, none⟩ = some (.pointer (some ⟨w.heap.size + 1, 0, none⟩)) := HE.out.cell 0 0 rfl rfl
  have q1_0 : w2.cell? ⟨w.heap.size + 1, 0, none⟩ = some (.pointer (some ⟨E.k, 0, none⟩)) := HE.out.cell 1 0 rfl rfl
  have q1_1 : w2.cell? ⟨w.heap.size + 1, 1, none⟩ = some (.int .i64 wk) := HE.out.cell 1 1 rfl rfl
  have q1_2 : w2.cell? ⟨w.heap.size + 1, 2, none⟩ = some (.int .i64 s) := HE.out.cell 1 2 rfl rfl
  have q1_3 : w2.cell? ⟨w.heap.size + 1, 3, none⟩ = some (.int .i64 n) := HE.out.cell 1 3 rfl rfl
  have q1_4 : w2.cell? ⟨w.heap.size + 1, 4, none⟩ = some (.int .i64 g) := HE.out.cell 1 4 rfl rfl
  have q1_5 : w2.cell? ⟨w.heap.size + 1, 5, none⟩ = some (.func (.func ghk) #[] chk) := HE.out.cell 1 5 rfl rfl
  have q2_0 : w2.cell? ⟨w.heap.size, 0, none⟩ = some (.int .i64 n) := HE.out.cell 2 0 rfl rfl
  have q2_1 : w2.cell? ⟨w.heap.size, 1, none⟩ = some (.int .i64 g) := HE.out.cell 2 1 rfl rfl
  go_wp2_with fail
  refine (idle_at HG.out (mg0_con2 (bj := w.heap.size + 1 + 1) (k := k) hR (HE.out.sub (env' := [(w.heap.size + 1 + 1, [.pointer (some ⟨w.heap.size + 1, 0, none⟩)]), (w.heap.size + 1, [.pointer (some ⟨E.k, 0, none⟩), .int .i64 wk, .int .i64 s, .int .i64 n, .int .i64 g, .func (.func ghk) #[] chk])]) (by simp)) Hhk.out hw)).mono ?_
  rintro e w9 ⟨v2, L9, rfl, hd2, hg2, hc2⟩
  go_wp2
  go_ret
  exact ⟨v2, L9, rfl, HD.out.trans hd2, hg2, hc2⟩
set_option maxHeartbeats 4000000 in
theorem code_go (hR : RMono (prApp E.cf R0)) {m : Nat} {wk n g s : Int} {vk : Value} {k : PR ρ} {L : Lab} {w : World} {S : St} (hg : Good E L S w) (hk : ConSim E.cf (prApp E.cf R0) E t isE m L w vk (.ret k)) (hw : 0 ≤ wk) (h1 : ¬ s < 0) (h2 : ¬ (E.cf.workers : Int) ≤ s) (h3 : ¬ E.cf.state n < 0) (hsb : 0 ≤ s ∧ s ≤ 4294967294) (hnb : 0 ≤ n ∧ n ≤ 4294967294) :
    Calls Tryz.prog 42 #[.pointer (some ⟨E.k, 0, none⟩), .int .i64 wk, .agg #[.int .i64 n, .int .i64 g], .int .i64 s, vk] w (Post E.cf (prApp E.cf R0) E t m L w (S, some (.load (E.cf.state n) (.ret (.mg1 wk n g s k))))) := by
  have henv := Env.nil L w
  have hd1 : decide (s < 0) = false := by simp; omega
  have hd2 : decide ((E.cf.workers : Int) ≤ s) = false := by simp; omega
  have hd3 : decide (E.cf.state n < 0) = false := decide_eq_false h3
  have HD := Go.Lib.hid (Did.refl t L w)
  have HG := Go.Lib.hid hg
  have HE := Go.Lib.hid henv
  obtain ⟨ghk, chk, hvhk, hgfhk, _⟩ := id hk
  subst hvhk
  have henhk : ∀ (args : Array Value) (w : World), (callFunc ghk args).run Tryz.prog w = .ok (.enter ghk args) w := hgfhk
  have Hhk := Go.Lib.hid hk
  clear hg henv hk hgfhk
  have hfld : ∀ w, (Instr.field 126 (.agg E.cf.vals) 0).run Tryz.prog w = .ok (.int .i64 E.cf.workers) w := fun _ => by kernel_rfl
  have hb0 : Below w.heap.size w (((w.alloc (.cells #[.int .i64 n, .int .i64 g] 46)).alloc (.cells #[.pointer (some ⟨E.k, 0, none⟩), .int .i64 wk, .int .i64 s, .int .i64 n, .int .i64 g, .func (.func ghk) #[] chk] 178)).alloc (.cells #[.pointer (some ⟨w.heap.size + 1, 0, none⟩)] 176)) := ((((Below.refl _ _).alloc (Nat.le_refl _) _).alloc (by first | (simp; done) | (simp; omega)) _).alloc (by first | (simp; done) | (simp; omega)) _)
  have HE0 : Hid (Env L (((w.alloc (.cells #[.int .i64 n, .int .i64 g] 46)).alloc (.cells #[.pointer (some ⟨E.k, 0, none⟩), .int .i64 wk, .int .i64 s, .int .i64 n, .int .i64 g, .func (.func ghk) #[] chk] 178)).alloc (.cells #[.pointer (some ⟨w.heap.size + 1, 0, none⟩)] 176)) [(w.heap.size + 1 + 1, [.pointer (some ⟨w.heap.size + 1, 0, none⟩)]), (w.heap.size + 1, [.pointer (some ⟨E.k, 0, none⟩), .int .i64 wk, .int .i64 s, .int .i64 n, .int .i64 g, .func (.func ghk) #[] chk]), (w.heap.size, [.int .i64 n, .int .i64 g])]) := Go.Lib.hid (Env.alloc_at (Env.alloc_at (Env.alloc_at HE.out (fun b hb => HG.out.new b (by first | exact hb | (simp at hb; omega))) [.int .i64 n, .int .i64 g] 46 (b := w.heap.size) (by first | rfl | (simp; done) | (simp; omega))) (fun b hb => HG.out.new b (by first | exact hb | (simp at hb; omega))) [.pointer (some ⟨E.k, 0, none⟩), .int .i64 wk, .int .i64 s, .int .i64 n, .int .i64 g, .func (.func ghk) #[] chk] 178 (b := w.heap.size + 1) (by first | rfl | (simp; done) | (simp; omega))) (fun b hb => HG.out.new b (by first | exact hb | (simp at hb; omega))) [.pointer (some ⟨w.heap.size + 1, 0, none⟩)] 176 (b := w.heap.size + 1 + 1) (by first | rfl | (simp; done) | (simp; omega)))
  replace HG := Go.Lib.hid (HG.out.below hb0)
  replace HE := Go.Lib.hid (HE0.out)
  replace Hhk := Go.Lib.hid (ConSim.ext E.cf (prApp E.cf R0) E t Hhk.out (below_ext hb0 t L))
  replace HD := Go.Lib.hid (HD.out.trans (below_did hb0 t L))
  clear hb0 HE0
  have q0_0 : (((w.alloc (.cells #[.int .i64 n, .int .i64 g] 46)).alloc (.cells #[.pointer (some ⟨E.k, 0, none⟩), .int .i64 wk, .int .i64 s, .int .i64 n, .int .i64 g, .func (.func ghk) #[] chk] 178)).alloc (.cells #[.pointer (some ⟨w.heap.size + 1, 0, none⟩)] 176)).cell? ⟨w.heap.size + 1 + 1, 0, none⟩ = some (.pointer (some ⟨w.heap.size + 1, 0, none⟩)) := HE.out.cell 0 0 rfl rfl
  have q1_0 : (((w.alloc (.cells #[.int .i64 n, .int .i64 g] 46)).alloc (.cells #[.pointer (some ⟨E.k, 0, none⟩), .int .i64 wk, .int .i64 s, .int .i64 n, .int .i64 g, .func (.func ghk) #[] chk] 178)).alloc (.cells #[.pointer (some ⟨w.heap.size + 1, 0, none⟩)] 176)).cell? ⟨w.heap.size + 1, 0, none⟩ = some (.pointer (some ⟨E.k, 0, none⟩)) := HE.out.cell 1 0 rfl rfl
  have q1_1 : (((w.alloc (.cells #[.int .i64 n, .int .i64 g] 46)).alloc (.cells #[.pointer (some ⟨E.k, 0, none⟩), .int .i64 wk, .int .i64 s, .int .i64 n, .int .i64 g, .func (.func ghk) #[] chk] 178)).alloc (.cells #[.pointer (some ⟨w.heap.size + 1, 0, none⟩)] 176)).cell? ⟨w.heap.size + 1, 1, none⟩ = some (.int .i64 wk) := HE.out.cell 1 1 rfl rfl
  have q1_2 : (((w.alloc (.cells #[.int .i64 n, .int .i64 g] 46)).alloc (.cells #[.pointer (some ⟨E.k, 0, none⟩), .int .i64 wk, .int .i64 s, .int .i64 n, .int .i64 g, .func (.func ghk) #[] chk] 178)).alloc (.cells #[.pointer (some ⟨w.heap.size + 1, 0, none⟩)] 176)).cell? ⟨w.heap.size + 1, 2, none⟩ = some (.int .i64 s) := HE.out.cell 1 2 rfl rfl
  have q1_3 : (((w.alloc (.cells #[.int .i64 n, .int .i64 g] 46)).alloc (.cells #[.pointer (some ⟨E.k, 0, none⟩), .int .i64 wk, .int .i64 s, .int .i64 n, .int .i64 g, .func (.func ghk) #[] chk] 178)).alloc (.cells #[.pointer (some ⟨w.heap.size + 1, 0, none⟩)] 176)).cell? ⟨w.heap.size + 1, 3, none⟩ = some (.int .i64 n) := HE.out.cell 1 3 rfl rfl
  have q1_4 : (((w.alloc (.cells #[.int .i64 n, .int .i64 g] 46)).alloc (.cells #[.pointer (some ⟨E.k, 0, none⟩), .int .i64 wk, .int .i64 s, .int .i64 n, .int .i64 g, .func (.func ghk) #[] chk] 178)).alloc (.cells #[.pointer (some ⟨w.heap.size + 1, 0, none⟩)] 176)).cell? ⟨w.heap.size + 1, 4, none⟩ = some (.int .i64 g) := HE.out.cell 1 4 rfl rfl
  have q1_5 : (((w.alloc (.cells #[.int .i64 n, .int .i64 g] 46)).alloc (.cells #[.pointer (some ⟨E.k, 0, none⟩), .int .i64 wk, .int .i64 s, .int .i64 n, .int .i64 g, .func (.func ghk) #[] chk] 178)).alloc (.cells #[.pointer (some ⟨w.heap.size + 1, 0, none⟩)] 176)).cell? ⟨w.heap.size + 1, 5, none⟩ = some (.func (.func ghk) #[] chk) := HE.out.cell 1 5 rfl rfl
  have q2_0 : (((w.alloc (.cells #[.int .i64 n, .int .i64 g] 46)).alloc (.cells #[.pointer (some ⟨E.k, 0, none⟩), .int .i64 wk, .int .i64 s, .int .i64 n, .int .i64 g, .func (.func ghk) #[] chk] 178)).alloc (.cells #[.pointer (some ⟨w.heap.size + 1, 0, none⟩)] 176)).cell? ⟨w.heap.size, 0, none⟩ = some (.int .i64 n) := HE.out.cell 2 0 rfl rfl
  have q2_1 : (((w.alloc (.cells #[.int .i64 n, .int .i64 g] 46)).alloc (.cells #[.pointer (some ⟨E.k, 0, none⟩), .int .i64 wk, .int .i64 s, .int .i64 n, .int .i64 g, .func (.func ghk) #[] chk] 178)).alloc (.cells #[.pointer (some ⟨w.heap.size + 1, 0, none⟩)] 176)).cell? ⟨w.heap.size, 1, none⟩ = some (.int .i64 g) := HE.out.cell 2 1 rfl rfl
  go_enter Tryz.func42, Tryz.ntmps42
  go_wp2_with fail
  generalize (((w.alloc (.cells #[.int .i64 n, .int .i64 g] 46)).alloc (.cells #[.pointer (some ⟨E.k, 0, none⟩), .int .i64 wk, .int .i64 s, .int .i64 n, .int .i64 g, .func (.func ghk) #[] chk] 178)).alloc (.cells #[.pointer (some ⟨w.heap.size + 1, 0, none⟩)] 176)) = w0 at *
  refine (core_config HG.out).mono ?_
  rintro e w1 ⟨rfl, hb⟩
  clear q0_0 q1_0 q1_1 q1_2 q1_3 q1_4 q1_5 q2_0 q2_1
  replace HG := Go.Lib.hid (HG.out.below hb)
  replace HE := Go.Lib.hid (HE.out.ext (below_ext hb t L))
  replace Hhk := Go.Lib.hid (ConSim.ext E.cf (prApp E.cf R0) E t Hhk.out (below_ext hb t L))
  replace HD := Go.Lib.hid (HD.out.trans (below_did hb t L))
  clear hb
  have q0_0 : w1.cell? ⟨w.heap.size + 1 + 1, 0, none⟩ = some (.pointer (some ⟨w.heap.size + 1, 0, none⟩)) := HE.out.cell 0 0 rfl rfl
  have q1_0 : w1.cell? ⟨w.heap.size + 1, 0, none⟩ = some (.pointer (some ⟨E.k, 0, none⟩)) := HE.out.cell 1 0 rfl rfl
  have q1_1 : w1.cell? ⟨w.heap.size + 1, 1, none⟩ = some (.int .i64 wk) := HE.out.cell 1 1 rfl rfl
  have q1_2 : w1.cell? ⟨w.heap.size + 1, 2, none⟩ = some (.int .i64 s) := HE.out.cell 1 2 rfl rfl
  have q1_3 : w1.cell? ⟨w.heap.size + 1, 3, none⟩ = some (.int .i64 n) := HE.out.cell 1 3 rfl rfl
  have q1_4 : w1.cell? ⟨w.heap.size + 1, 4, none⟩ = some (.int .i64 g) := HE.out.cell 1 4 rfl rfl
  have q1_5 : w1.cell? ⟨w.heap.size + 1, 5, none⟩ = some (.func (.func ghk) #[] chk) := HE.out.cell 1 5 rfl rfl
  have q2_0 : w1.cell? ⟨w.heap.size, 0, none⟩ = some (.int .i64 n) := HE.out.cell 2 0 rfl rfl
  have q2_1 : w1.cell? ⟨w.heap.size, 1, none⟩ = some (.int .i64 g) := HE.out.cell 2 1 rfl rfl
  generalize E.cf.vals = vv at *
  have HPL := Go.Lib.hid (arm_plan HG.out)
  have HSA := Go.Lib.hid (arm_state HG.out n)
  go_wp2
  have q0_0' : ∀ d os, (Sort.grow (redrawn w1 d) os).cell? ⟨w.heap.size + 1 + 1, 0, none⟩ = some (.pointer (some ⟨w.heap.size + 1, 0, none⟩)) := fun d os => cell_regrown q0_0 d os
  have q1_0' : ∀ d os, (Sort.grow (redrawn w1 d) os).cell? ⟨w.heap.size + 1, 0, none⟩ = some (.pointer (some ⟨E.k, 0, none⟩)) := fun d os => cell_regrown q1_0 d os
  have q1_1' : ∀ d os, (Sort.grow (redrawn w1 d) os).cell? ⟨w.heap.size + 1, 1, none⟩ = some (.int .i64 wk) := fun d os => cell_regrown q1_1 d os
  have q1_2' : ∀ d os, (Sort.grow (redrawn w1 d) os).cell? ⟨w.heap.size + 1, 2, none⟩ = some (.int .i64 s) := fun d os => cell_regrown q1_2 d os
  have q1_3' : ∀ d os, (Sort.grow (redrawn w1 d) os).cell? ⟨w.heap.size + 1, 3, none⟩ = some (.int .i64 n) := fun d os => cell_regrown q1_3 d os
  have q1_4' : ∀ d os, (Sort.grow (redrawn w1 d) os).cell? ⟨w.heap.size + 1, 4, none⟩ = some (.int .i64 g) := fun d os => cell_regrown q1_4 d os
  have q1_5' : ∀ d os, (Sort.grow (redrawn w1 d) os).cell? ⟨w.heap.size + 1, 5, none⟩ = some (.func (.func ghk) #[] chk) := fun d os => cell_regrown q1_5 d os
  have q2_0' : ∀ d os, (Sort.grow (redrawn w1 d) os).cell? ⟨w.heap.size, 0, none⟩ = some (.int .i64 n) := fun d os => cell_regrown q2_0 d os
  have q2_1' : ∀ d os, (Sort.grow (redrawn w1 d) os).cell? ⟨w.heap.size, 1, none⟩ = some (.int .i64 g) := fun d os => cell_regrown q2_1 d os
  refine wp_region_quiet_below (by kernel_rfl) (by kernel_rfl) ?_
  repeat (go_big_quiet_step (first
    | (go_at_call 47; rename_i p; exact Calls.regrown_of (HPL.out _ (below_regrown w1 p.d p.os)))
    | (go_at_call 139; rename_i p; exact Calls.regrown_of (HSA.out _ (below_regrown w1 p.d p.os)))))
  refine wpQuiet_nil ?_
  intro w2 hw'
  obtain ⟨p, rfl⟩ := hw'
  have hb := below_regrown w1 p.d p.os
  clear q0_0' q1_0' q1_1' q1_2' q1_3' q1_4' q1_5' q2_0' q2_1' q0_0 q1_0 q1_1 q1_2 q1_3 q1_4 q1_5 q2_0 q2_1
  generalize Sort.grow (redrawn w1 p.d) p.os = w2 at *
  replace HG := Go.Lib.hid (HG.out.below hb)
  replace HE := Go.Lib.hid (HE.out.ext (below_ext hb t L))
  replace Hhk := Go.Lib.hid (ConSim.ext E.cf (prApp E.cf R0) E t Hhk.out (below_ext hb t L))
  replace HD := Go.Lib.hid (HD.out.trans (below_did hb t L))
  clear hb
  have q0_0 : w2.cell? ⟨w.heap.size + 1 + 1, 0, none⟩ = some (.pointer (some ⟨w.heap.size + 1, 0, none⟩)) := HE.out.cell 0 0 rfl rfl
  have q1_0 : w2.cell? ⟨w.heap.size + 1, 0, none⟩ = some (.pointer (some ⟨E.k, 0, none⟩)) := HE.out.cell 1 0 rfl rfl
  have q1_1 : w2.cell? ⟨w.heap.size + 1, 1, none⟩ = some (.int .i64 wk) := HE.out.cell 1 1 rfl rfl
  have q1_2 : w2.cell? ⟨w.heap.size + 1, 2, none⟩ = some (.int .i64 s) := HE.out.cell 1 2 rfl rfl
  have q1_3 : w2.cell? ⟨w.heap.size + 1, 3, none⟩ = some (.int .i64 n) := HE.out.cell 1 3 rfl rfl
  have q1_4 : w2.cell? ⟨w.heap.size + 1, 4, none⟩ = some (.int .i64 g) := HE.out.cell 1 4 rfl rfl
  have q1_5 : w2.cell? ⟨w.heap.size + 1, 5, none⟩ = some (.func (.func ghk) #[] chk) := HE.out.cell 1 5 rfl rfl
  have q2_0 : w2.cell? ⟨w.heap.size, 0, none⟩ = some (.int .i64 n) := HE.out.cell 2 0 rfl rfl
  have q2_1 : w2.cell? ⟨w.heap.size, 1, none⟩ = some (.int .i64 g) := HE.out.cell 2 1 rfl rfl
  go_wp2_with fail
  refine (mg_armed (jb := w.heap.size + 1) (g := g) hR HG.out (HE.out.sub (env' := [(w.heap.size + 1, [.pointer (some ⟨E.k, 0, none⟩), .int .i64 wk, .int .i64 s, .int .i64 n, .int .i64 g, .func (.func ghk) #[] chk])]) (by simp)) (mg1_arm (bj := w.heap.size + 1 + 1) (k := k) hR (HE.out.sub (env' := [(w.heap.size + 1 + 1, [.pointer (some ⟨w.heap.size + 1, 0, none⟩)]), (w.heap.size + 1, [.pointer (some ⟨E.k, 0, none⟩), .int .i64 wk, .int .i64 s, .int .i64 n, .int .i64 g, .func (.func ghk) #[] chk])]) (by simp)) Hhk.out hw hsb hnb)).mono ?_
  rintro e w9 ⟨v2, L9, rfl, hd2, hg2, hc2⟩
  go_wp2
  go_ret
  exact ⟨v2, L9, rfl, HD.out.trans hd2, hg2, hc2⟩
theorem migrate_any (hR : RMono (prApp E.cf R0)) {m : Nat} {wk n g s : Int} {vk : Value} {k : PR ρ} {L : Lab} {w : World} {S : St} (hg : Good E L S w) (hk : ConSim E.cf (prApp E.cf R0) E t isE m L w vk (.ret k)) (hw : 0 ≤ wk) :
    Calls Tryz.prog 42 #[.pointer (some ⟨E.k, 0, none⟩), .int .i64 wk, .agg #[.int .i64 n, .int .i64 g], .int .i64 s, vk] w (Post E.cf (prApp E.cf R0) E t m L w (S, some (migrateK E.cf wk n g s k))) := by
  unfold migrateK
  by_cases h1 : s < 0
  · rw [if_pos (.inl h1)]; exact code_neg hR hg hk hw h1
  · by_cases h2 : (E.cf.workers : Int) ≤ s
    · rw [if_pos (.inr h2)]; exact code_far hR hg hk hw h1 h2
    · rw [if_neg (by omega)]
      by_cases h3 : E.cf.state n < 0
      · rw [if_pos h3]; exact code_none hR hg hk hw h1 h2 h3
      · rw [if_neg h3]; exact code_go hR hg hk hw h1 h2 h3 ⟨by omega, by have := hg.ok.w2; omega⟩ (state_bd hg.ok h3)
end
end Go.Proofs.YtgemjjpmoejgdaaGreat
