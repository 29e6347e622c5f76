/- A Rearm, as code. -/
import Derived.Test.YtgemjjpmoejgdaaGreatHrr
namespace Go.Proofs.YtgemjjpmoejgdaaGreat
open Go.RowKit
set_option maxRecDepth 100000
set_option linter.unusedVariables false

section
variable {ρ : Type} {R0 : ρ → Arg → St → St × Option (K (PR ρ))} {E : G} {t : Nat}
set_option maxHeartbeats 2000000 in
theorem ra_point {wk n g nn ng T er : Int} {vk : Value} {L : Lab} {w : World} {S : St} {jb : Nat} (hg : Good E L S w) (henv : Env L w [(jb, [.pointer (some ⟨E.k, 0, none⟩), .int .i64 wk, .int .i64 n, .int .i64 g, vk])]) (hn : S.log.length ≤ 1099511627775) (hRt : ∀ w, Calls Tryz.prog 235 #[.agg #[.int .i64 3, .int .i64 wk, .int .i64 3, .int .i64 n, .int .i64 g, .int .i64 nn, .int .i64 ng, .int .i64 T, .int .i64 0, .int .i64 0, .bool false, .int .i64 er]] w fun e w' => e = .returned (.bool true) ∧ Below w.heap.size w w') :
    Calls Tryz.prog 223 #[.pointer (some ⟨jb, 0, none⟩), .agg #[.int .i64 nn, .int .i64 ng], .int .i64 T, .int .i64 er] w fun e w' => ∃ L', e = .returned (.tuple #[]) ∧ Noted E L S w (rearmPoint wk n g nn ng T er) L' w' := by
  have henv : Env L w [(jb, [.pointer (some ⟨E.k, 0, none⟩), .int .i64 wk, .int .i64 n, .int .i64 g])] := fun p hp => by
    obtain rfl := List.mem_singleton.1 hp
    obtain ⟨a, b, c⟩ := henv _ (List.mem_singleton.2 rfl)
    refine ⟨a, b, fun i v hi => c i v ?_⟩
    match i, hi with
    | 0, hi => exact hi
    | 1, hi => exact hi
    | 2, hi => exact hi
    | 3, hi => exact hi
    | _ + 4, hi => simp at hi
  have HD := Go.Lib.hid (Did.refl 0 L w)
  have HG := Go.Lib.hid hg
  have HE := Go.Lib.hid henv
  clear hg henv
  have hb0 : Below w.heap.size w (w.alloc (.cells #[.int .i64 nn, .int .i64 ng] 46)) := ((Below.refl _ _).alloc (Nat.le_refl _) _)
  have HE0 : Hid (Env L (w.alloc (.cells #[.int .i64 nn, .int .i64 ng] 46)) [(w.heap.size, [.int .i64 nn, .int .i64 ng]), (jb, [.pointer (some ⟨E.k, 0, none⟩), .int .i64 wk, .int .i64 n, .int .i64 g])]) := Go.Lib.hid (Env.alloc_at HE.out (fun b hb => HG.out.new b (by first | exact hb | (simp at hb; omega))) [.int .i64 nn, .int .i64 ng] 46 (b := w.heap.size) (by first | rfl | (simp; done) | (simp; omega)))
  replace HG := Go.Lib.hid (HG.out.below hb0)
  replace HE := Go.Lib.hid (HE0.out)
  replace HD := Go.Lib.hid (HD.out.trans (below_did hb0 0 L))
  have HBL := Go.Lib.hid hb0
  clear hb0 HE0
  have q0_0 : (w.alloc (.cells #[.int .i64 nn, .int .i64 ng] 46)).cell? ⟨w.heap.size, 0, none⟩ = some (.int .i64 nn) := HE.out.cell 0 0 rfl rfl
  have q0_1 : (w.alloc (.cells #[.int .i64 nn, .int .i64 ng] 46)).cell? ⟨w.heap.size, 1, none⟩ = some (.int .i64 ng) := HE.out.cell 0 1 rfl rfl
  have q1_0 : (w.alloc (.cells #[.int .i64 nn, .int .i64 ng] 46)).cell? ⟨jb, 0, none⟩ = some (.pointer (some ⟨E.k, 0, none⟩)) := HE.out.cell 1 0 rfl rfl
  have q1_1 : (w.alloc (.cells #[.int .i64 nn, .int .i64 ng] 46)).cell? ⟨jb, 1, none⟩ = some (.int .i64 wk) := HE.out.cell 1 1 rfl rfl
  have q1_2 : (w.alloc (.cells #[.int .i64 nn, .int .i64 ng] 46)).cell? ⟨jb, 2, none⟩ = some (.int .i64 n) := HE.out.cell 1 2 rfl rfl
  have q1_3 : (w.alloc (.cells #[.int .i64 nn, .int .i64 ng] 46)).cell? ⟨jb, 3, none⟩ = some (.int .i64 g) := HE.out.cell 1 3 rfl rfl
  go_enter Tryz.func223, Tryz.ntmps223
  go_wp2
  generalize (w.alloc (.cells #[.int .i64 nn, .int .i64 ng] 46)) = w0 at *
  have q0_0' : ∀ d os, (Sort.grow (redrawn w0 d) os).cell? ⟨w.heap.size, 0, none⟩ = some (.int .i64 nn) := fun d os => cell_regrown q0_0 d os
  have q0_1' : ∀ d os, (Sort.grow (redrawn w0 d) os).cell? ⟨w.heap.size, 1, none⟩ = some (.int .i64 ng) := fun d os => cell_regrown q0_1 d os
  have q1_0' : ∀ d os, (Sort.grow (redrawn w0 d) os).cell? ⟨jb, 0, none⟩ = some (.pointer (some ⟨E.k, 0, none⟩)) := fun d os => cell_regrown q1_0 d os
  have q1_1' : ∀ d os, (Sort.grow (redrawn w0 d) os).cell? ⟨jb, 1, none⟩ = some (.int .i64 wk) := fun d os => cell_regrown q1_1 d os
  have q1_2' : ∀ d os, (Sort.grow (redrawn w0 d) os).cell? ⟨jb, 2, none⟩ = some (.int .i64 n) := fun d os => cell_regrown q1_2 d os
  have q1_3' : ∀ d os, (Sort.grow (redrawn w0 d) os).cell? ⟨jb, 3, none⟩ = some (.int .i64 g) := fun d os => cell_regrown q1_3 d os
  refine wp_region_below_tail 16 (by kernel_rfl) (by kernel_rfl) ?_
  simp only [List.take_succ_cons, List.take_zero, List.drop_succ_cons, List.drop_zero]
  repeat (go_big_quiet_step (first
    | fail))
  refine wpQuiet_nil ?_
  intro w1 hw'
  obtain ⟨p, rfl⟩ := hw'
  have hb := below_regrown w0 p.d p.os
  clear q0_0' q0_1' q1_0' q1_1' q1_2' q1_3' q0_0 q0_1 q1_0 q1_1 q1_2 q1_3
  generalize Sort.grow (redrawn w0 p.d) p.os = w1 at *
  replace HG := Go.Lib.hid (HG.out.below hb)
  replace HE := Go.Lib.hid (HE.out.ext (below_ext hb 0 L))
  replace HD := Go.Lib.hid (HD.out.trans (below_did hb 0 L))
  replace HBL := Go.Lib.hid (HBL.out.trans (hb.mono HBL.out.size))
  clear hb
  have q0_0 : w1.cell? ⟨w.heap.size, 0, none⟩ = some (.int .i64 nn) := HE.out.cell 0 0 rfl rfl
  have q0_1 : w1.cell? ⟨w.heap.size, 1, none⟩ = some (.int .i64 ng) := HE.out.cell 0 1 rfl rfl
  have q1_0 : w1.cell? ⟨jb, 0, none⟩ = some (.pointer (some ⟨E.k, 0, none⟩)) := HE.out.cell 1 0 rfl rfl
  have q1_1 : w1.cell? ⟨jb, 1, none⟩ = some (.int .i64 wk) := HE.out.cell 1 1 rfl rfl
  have q1_2 : w1.cell? ⟨jb, 2, none⟩ = some (.int .i64 n) := HE.out.cell 1 2 rfl rfl
  have q1_3 : w1.cell? ⟨jb, 3, none⟩ = some (.int .i64 g) := HE.out.cell 1 3 rfl rfl
  go_wp2_with fail
  refine (core_note_any HG.out hn 3 wk 3 n g nn ng T 0 0 er false hRt).mono ?_
  rintro e w9 ⟨L9, rfl, hno⟩
  have HNO := Go.Lib.hid hno
  clear hno
  go_wp2
  go_end0
  exact ⟨L9, rfl, HNO.out.of_below HBL.out⟩
set_option maxHeartbeats 2000000 in
theorem ra_fail (hR : RMono (prApp E.cf R0)) {m : Nat} {wk n g : Int} {vk : Value} {k : PR ρ} {L : Lab} {w : World} {S : St} {jb : Nat} {er : Int} (hg : Good E L S w) (henv : Env L w [(jb, [.pointer (some ⟨E.k, 0, none⟩), .int .i64 wk, .int .i64 n, .int .i64 g, vk])]) (hk : ConSim E.cf (prApp E.cf R0) E t isHe m L w vk (.ret k)) (hw : 0 ≤ wk) (he : 0 < er ∧ er ≤ 100) (hbd : Bd (prApp E.cf R0 k (.he 0 0 er) (S.note (rearmPoint wk n g 0 0 0 er))).1) :
    Calls Tryz.prog 167 #[.pointer (some ⟨jb, 0, none⟩), .int .i64 er] w (Post E.cf (prApp E.cf R0) E t m L w (prApp E.cf R0 k (.he 0 0 er) (S.note (rearmPoint wk n g 0 0 0 er)))) := by
  have hn := (Bd.of_mono hR hbd).of_note
  have HD := Go.Lib.hid (Did.refl t L w)
  have HG := Go.Lib.hid hg
  have HE := Go.Lib.hid henv
  obtain ⟨ghk, chk, hvhk, hgfhk, _⟩ := id hk
  subst hvhk
  have henhk : ∀ (args : Array Value) (w : World), (callFunc ghk args).run Tryz.prog w = .ok (.enter ghk args) w := hgfhk
  have Hhk := Go.Lib.hid hk
  clear hg henv hk hgfhk
  have q0_0 : w.cell? ⟨jb, 0, none⟩ = some (.pointer (some ⟨E.k, 0, none⟩)) := HE.out.cell 0 0 rfl rfl
  have q0_1 : w.cell? ⟨jb, 1, none⟩ = some (.int .i64 wk) := HE.out.cell 0 1 rfl rfl
  have q0_2 : w.cell? ⟨jb, 2, none⟩ = some (.int .i64 n) := HE.out.cell 0 2 rfl rfl
  have q0_3 : w.cell? ⟨jb, 3, none⟩ = some (.int .i64 g) := HE.out.cell 0 3 rfl rfl
  have q0_4 : w.cell? ⟨jb, 4, none⟩ = some (.func (.func ghk) #[] chk) := HE.out.cell 0 4 rfl rfl
  go_enter Tryz.func167, Tryz.ntmps167
  go_wp2_with fail
  refine (ra_point HG.out HE.out hn (fun w => rearmE_right wk n g er hw he.1 w)).mono ?_
  rintro e w1 ⟨L1, rfl, hno⟩
  clear q0_0 q0_1 q0_2 q0_3 q0_4
  replace HG := Go.Lib.hid (hno.good)
  replace HE := Go.Lib.hid (HE.out.ext (hno.shr.ext t))
  replace Hhk := Go.Lib.hid (ConSim.ext E.cf (prApp E.cf R0) E t Hhk.out (hno.shr.ext t))
  replace HD := Go.Lib.hid (HD.out.trans (hno.shr.did t))
  clear hno
  have q0_0 : w1.cell? ⟨jb, 0, none⟩ = some (.pointer (some ⟨E.k, 0, none⟩)) := HE.out.cell 0 0 rfl rfl
  have q0_1 : w1.cell? ⟨jb, 1, none⟩ = some (.int .i64 wk) := HE.out.cell 0 1 rfl rfl
  have q0_2 : w1.cell? ⟨jb, 2, none⟩ = some (.int .i64 n) := HE.out.cell 0 2 rfl rfl
  have q0_3 : w1.cell? ⟨jb, 3, none⟩ = some (.int .i64 g) := HE.out.cell 0 3 rfl rfl
  have q0_4 : w1.cell? ⟨jb, 4, none⟩ = some (.func (.func ghk) #[] chk) := HE.out.cell 0 4 rfl rfl
  have HC : Hid (Calls Tryz.prog ghk ((Arg.vals (.he 0 0 er)) ++ chk) w1 (Post E.cf (prApp E.cf R0) E t m L1 w1 (prApp E.cf R0 k (.he 0 0 er) (S.note (rearmPoint wk n g 0 0 0 er))))) := Go.Lib.hid (Hhk.out.call (a := .he 0 0 er) ⟨by decide, by decide, by omega, he.2⟩ HG.out hbd)
  clear hbd
  generalize prApp E.cf R0 k (.he 0 0 er) (S.note (rearmPoint wk n g 0 0 0 er)) = rr at *
  go_wp2_with (go_at_fn ghk; refine (HC.out).mono ?_; rintro e w9 ⟨v2, L9, rfl, hd2, hg2, hc2⟩)
  go_ret
  exact ⟨v2, L9, rfl, HD.out.trans hd2, hg2, hc2⟩
set_option maxHeartbeats 2000000 in
theorem ra7_call (hR : RMono (prApp E.cf R0)) {m : Nat} {wk n g : Int} {vk : Value} {k : PR ρ} {L : Lab} {w : World} {S : St} {jb : Nat} {bj : Nat} (hg : Good E L S w) (henv : Env L w [(bj, [.pointer (some ⟨jb, 0, none⟩)]), (jb, [.pointer (some ⟨E.k, 0, none⟩), .int .i64 wk, .int .i64 n, .int .i64 g, vk])]) (hk : ConSim E.cf (prApp E.cf R0) E t isHe m L w vk (.ret k)) (hbd : Bd (prApp E.cf R0 k (.he 0 0 4) S).1) :
    Calls Tryz.prog 270 #[.pointer (some ⟨bj, 0, none⟩)] w (Post E.cf (prApp E.cf R0) E t m L w (prApp E.cf R0 k (.he 0 0 4) S)) := by
  have HD := Go.Lib.hid (Did.refl t L w)
  have HG := Go.Lib.hid hg
  have HE := Go.Lib.hid henv
  obtain ⟨ghk, chk, hvhk, hgfhk, _⟩ := id hk
  subst hvhk
  have henhk : ∀ (args : Array Value) (w : World), (callFunc ghk args).run Tryz.prog w = .ok (.enter ghk args) w := hgfhk
  have Hhk := Go.Lib.hid hk
  clear hg henv hk hgfhk
  have q0_0 : w.cell? ⟨bj, 0, none⟩ = some (.pointer (some ⟨jb, 0, none⟩)) := HE.out.cell 0 0 rfl rfl
  have q1_0 : w.cell? ⟨jb, 0, none⟩ = some (.pointer (some ⟨E.k, 0, none⟩)) := HE.out.cell 1 0 rfl rfl
  have q1_1 : w.cell? ⟨jb, 1, none⟩ = some (.int .i64 wk) := HE.out.cell 1 1 rfl rfl
  have q1_2 : w.cell? ⟨jb, 2, none⟩ = some (.int .i64 n) := HE.out.cell 1 2 rfl rfl
  have q1_3 : w.cell? ⟨jb, 3, none⟩ = some (.int .i64 g) := HE.out.cell 1 3 rfl rfl
  have q1_4 : w.cell? ⟨jb, 4, none⟩ = some (.func (.func ghk) #[] chk) := HE.out.cell 1 4 rfl rfl
  go_enter Tryz.func270, Tryz.ntmps270
  skip
  have HC : Hid (Calls Tryz.prog ghk ((Arg.vals (.he 0 0 4)) ++ chk) w (Post E.cf (prApp E.cf R0) E t m L w (prApp E.cf R0 k (.he 0 0 4) (S)))) := Go.Lib.hid (Hhk.out.call (a := .he 0 0 4) ⟨by decide, by decide, by decide⟩ HG.out hbd)
  clear hbd
  generalize prApp E.cf R0 k (.he 0 0 4) (S) = rr at *
  go_wp2_with (go_at_fn ghk; refine (HC.out).mono ?_; rintro e w9 ⟨v2, L9, rfl, hd2, hg2, hc2⟩)
  go_ret
  exact ⟨v2, L9, rfl, HD.out.trans hd2, hg2, hc2⟩
theorem ra7_con (hR : RMono (prApp E.cf R0)) {m : Nat} {wk n g : Int} {vk : Value} {k : PR ρ} {L : Lab} {w : World} {jb : Nat} {bj : Nat} (henv : Env L w [(bj, [.pointer (some ⟨jb, 0, none⟩)]), (jb, [.pointer (some ⟨E.k, 0, none⟩), .int .i64 wk, .int .i64 n, .int .i64 g, vk])]) (hk : ConSim E.cf (prApp E.cf R0) E t isHe m L w vk (.ret k))  :
    ConSim E.cf (prApp E.cf R0) E t isU m L w (.func (.func 270) #[] #[.pointer (some ⟨bj, 0, none⟩)]) (.ret (.ra7 k)) := by
  refine ⟨_, _, rfl, enters_of Tryz.func270 (by kernel_rfl) rfl, ?_⟩
  intro a L' w' S ha hx hg hbd
  cases a with
  | u =>
    show Calls _ _ #[_] _ _
    exact ra7_call hR hg (henv.ext hx) (ConSim.ext E.cf (prApp E.cf R0) E t hk hx) hbd
  | _ => exact absurd ha (by simp [isU])
set_option maxHeartbeats 2000000 in
theorem ra6_call (hR : RMono (prApp E.cf R0)) {m : Nat} {wk n g : Int} {vk : Value} {k : PR ρ} {L : Lab} {w : World} {S : St} {jb : Nat} {bj bn : Nat} (hg : Good E L S w) (henv : Env L w [(bj, [.pointer (some ⟨jb, 0, none⟩)]), (bn, [.int .i64 n, .int .i64 (g + 1)]), (jb, [.pointer (some ⟨E.k, 0, none⟩), .int .i64 wk, .int .i64 n, .int .i64 g, vk])]) (hk : ConSim E.cf (prApp E.cf R0) E t isHe m L w vk (.ret k)) (hnb : 0 ≤ n ∧ n ≤ 4294967294) (hgb : 0 ≤ g ∧ g ≤ 4294967294) (hbd : Bd (prApp E.cf R0 k (.he n (g + 1) 0) S).1) :
    Calls Tryz.prog 271 #[.pointer (some ⟨bj, 0, none⟩), .pointer (some ⟨bn, 0, none⟩)] w (Post E.cf (prApp E.cf R0) E t m L w (prApp E.cf R0 k (.he n (g + 1) 0) S)) := by
  have HD := Go.Lib.hid (Did.refl t L w)
  have HG := Go.Lib.hid hg
  have HE := Go.Lib.hid henv
  obtain ⟨ghk, chk, hvhk, hgfhk, _⟩ := id hk
  subst hvhk
  have henhk : ∀ (args : Array Value) (w : World), (callFunc ghk args).run Tryz.prog w = .ok (.enter ghk args) w := hgfhk
  have Hhk := Go.Lib.hid hk
  clear hg henv hk hgfhk
  have q0_0 : w.cell? ⟨bj, 0, none⟩ = some (.pointer (some ⟨jb, 0, none⟩)) := HE.out.cell 0 0 rfl rfl
  have q1_0 : w.cell? ⟨bn, 0, none⟩ = some (.int .i64 n) := HE.out.cell 1 0 rfl rfl
  have q1_1 : w.cell? ⟨bn, 1, none⟩ = some (.int .i64 (g + 1)) := HE.out.cell 1 1 rfl rfl
  have q2_0 : w.cell? ⟨jb, 0, none⟩ = some (.pointer (some ⟨E.k, 0, none⟩)) := HE.out.cell 2 0 rfl rfl
  have q2_1 : w.cell? ⟨jb, 1, none⟩ = some (.int .i64 wk) := HE.out.cell 2 1 rfl rfl
  have q2_2 : w.cell? ⟨jb, 2, none⟩ = some (.int .i64 n) := HE.out.cell 2 2 rfl rfl
  have q2_3 : w.cell? ⟨jb, 3, none⟩ = some (.int .i64 g) := HE.out.cell 2 3 rfl rfl
  have q2_4 : w.cell? ⟨jb, 4, none⟩ = some (.func (.func ghk) #[] chk) := HE.out.cell 2 4 rfl rfl
  go_enter Tryz.func271, Tryz.ntmps271
  go_wp2
  have q0_0' : ∀ d os, (Sort.grow (redrawn w d) os).cell? ⟨bj, 0, none⟩ = some (.pointer (some ⟨jb, 0, none⟩)) := fun d os => cell_regrown q0_0 d os
  have q1_0' : ∀ d os, (Sort.grow (redrawn w d) os).cell? ⟨bn, 0, none⟩ = some (.int .i64 n) := fun d os => cell_regrown q1_0 d os
  have q1_1' : ∀ d os, (Sort.grow (redrawn w d) os).cell? ⟨bn, 1, none⟩ = some (.int .i64 (g + 1)) := fun d os => cell_regrown q1_1 d os
  have q2_0' : ∀ d os, (Sort.grow (redrawn w d) os).cell? ⟨jb, 0, none⟩ = some (.pointer (some ⟨E.k, 0, none⟩)) := fun d os => cell_regrown q2_0 d os
  have q2_1' : ∀ d os, (Sort.grow (redrawn w d) os).cell? ⟨jb, 1, none⟩ = some (.int .i64 wk) := fun d os => cell_regrown q2_1 d os
  have q2_2' : ∀ d os, (Sort.grow (redrawn w d) os).cell? ⟨jb, 2, none⟩ = some (.int .i64 n) := fun d os => cell_regrown q2_2 d os
  have q2_3' : ∀ d os, (Sort.grow (redrawn w d) os).cell? ⟨jb, 3, none⟩ = some (.int .i64 g) := fun d os => cell_regrown q2_3 d os
  have q2_4' : ∀ d os, (Sort.grow (redrawn w d) os).cell? ⟨jb, 4, none⟩ = some (.func (.func ghk) #[] chk) := fun d os => cell_regrown q2_4 d os
  refine wp_region_below_tail 5 (by kernel_rfl) (by kernel_rfl) ?_
  simp only [List.take_succ_cons, List.take_zero, List.drop_succ_cons, List.drop_zero]
  repeat (go_big_quiet_step (first
    | fail))
  refine wpQuiet_nil ?_
  intro w1 hw'
  obtain ⟨p, rfl⟩ := hw'
  have hb := below_regrown w p.d p.os
  clear q0_0' q1_0' q1_1' q2_0' q2_1' q2_2' q2_3' q2_4' q0_0 q1_0 q1_1 q2_0 q2_1 q2_2 q2_3 q2_4
  generalize Sort.grow (redrawn w p.d) p.os = w1 at *
  replace HG := Go.Lib.hid (HG.out.below hb)
  replace HE := Go.Lib.hid (HE.out.ext (below_ext hb t L))
  replace Hhk := Go.Lib.hid (ConSim.ext E.cf (prApp E.cf R0) E t Hhk.out (below_ext hb t L))
  replace HD := Go.Lib.hid (HD.out.trans (below_did hb t L))
  clear hb
  have q0_0 : w1.cell? ⟨bj, 0, none⟩ = some (.pointer (some ⟨jb, 0, none⟩)) := HE.out.cell 0 0 rfl rfl
  have q1_0 : w1.cell? ⟨bn, 0, none⟩ = some (.int .i64 n) := HE.out.cell 1 0 rfl rfl
  have q1_1 : w1.cell? ⟨bn, 1, none⟩ = some (.int .i64 (g + 1)) := HE.out.cell 1 1 rfl rfl
  have q2_0 : w1.cell? ⟨jb, 0, none⟩ = some (.pointer (some ⟨E.k, 0, none⟩)) := HE.out.cell 2 0 rfl rfl
  have q2_1 : w1.cell? ⟨jb, 1, none⟩ = some (.int .i64 wk) := HE.out.cell 2 1 rfl rfl
  have q2_2 : w1.cell? ⟨jb, 2, none⟩ = some (.int .i64 n) := HE.out.cell 2 2 rfl rfl
  have q2_3 : w1.cell? ⟨jb, 3, none⟩ = some (.int .i64 g) := HE.out.cell 2 3 rfl rfl
  have q2_4 : w1.cell? ⟨jb, 4, none⟩ = some (.func (.func ghk) #[] chk) := HE.out.cell 2 4 rfl rfl
  have HC : Hid (Calls Tryz.prog ghk ((Arg.vals (.he n (g + 1) 0)) ++ chk) w1 (Post E.cf (prApp E.cf R0) E t m L w1 (prApp E.cf R0 k (.he n (g + 1) 0) (S)))) := Go.Lib.hid (Hhk.out.call (a := .he n (g + 1) 0) ⟨hnb, by omega, by decide⟩ HG.out hbd)
  clear hbd
  generalize prApp E.cf R0 k (.he n (g + 1) 0) (S) = rr at *
  go_wp2_with (go_at_fn ghk; refine (HC.out).mono ?_; rintro e w9 ⟨v2, L9, rfl, hd2, hg2, hc2⟩)
  go_ret
  exact ⟨v2, L9, rfl, HD.out.trans hd2, hg2, hc2⟩
theorem ra6_con (hR : RMono (prApp E.cf R0)) {m : Nat} {wk n g : Int} {vk : Value} {k : PR ρ} {L : Lab} {w : World} {jb : Nat} {bj bn : Nat} (henv : Env L w [(bj, [.pointer (some ⟨jb, 0, none⟩)]), (bn, [.int .i64 n, .int .i64 (g + 1)]), (jb, [.pointer (some ⟨E.k, 0, none⟩), .int .i64 wk, .int .i64 n, .int .i64 g, vk])]) (hk : ConSim E.cf (prApp E.cf R0) E t isHe m L w vk (.ret k)) (hnb : 0 ≤ n ∧ n ≤ 4294967294) (hgb : 0 ≤ g ∧ g ≤ 4294967294) :
    ConSim E.cf (prApp E.cf R0) E t isU m L w (.func (.func 271) #[] #[.pointer (some ⟨bj, 0, none⟩), .pointer (some ⟨bn, 0, none⟩)]) (.ret (.ra6 n (g + 1) k)) := by
  refine ⟨_, _, rfl, enters_of Tryz.func271 (by kernel_rfl) rfl, ?_⟩
  intro a L' w' S ha hx hg hbd
  cases a with
  | u =>
    show Calls _ _ #[_, _] _ _
    exact ra6_call hR hg (henv.ext hx) (ConSim.ext E.cf (prApp E.cf R0) E t hk hx) hnb hgb hbd
  | _ => exact absurd ha (by simp [isU])
set_option maxHeartbeats 2000000 in
theorem ra5_no (hR : RMono (prApp E.cf R0)) {m : Nat} {wk n g : Int} {vk : Value} {k : PR ρ} {L : Lab} {w : World} {S : St} {jb : Nat} {bj bt bn bd : Nat} {dl tk : Int} (hg : Good E L S w) (henv : Env L w [(bj, [.pointer (some ⟨jb, 0, none⟩)]), (bt, [.int .i64 tk]), (bn, [.int .i64 n, .int .i64 (g + 1)]), (bd, [.int .i64 dl]), (jb, [.pointer (some ⟨E.k, 0, none⟩), .int .i64 wk, .int .i64 n, .int .i64 g, vk])]) (hk : ConSim E.cf (prApp E.cf R0) E t isHe m L w vk (.ret k)) (hw : 0 ≤ wk) (hnb : 0 ≤ n ∧ n ≤ 4294967294) (hgb : 0 ≤ g ∧ g ≤ 4294967294) (hdb : 0 ≤ dl ∧ dl ≤ 1073741823) (hbd : Bd (S.note (rearmPoint wk n g 0 0 0 4))) :
    Calls Tryz.prog 269 #[.bool false, .pointer (some ⟨bj, 0, none⟩), .pointer (some ⟨bt, 0, none⟩), .pointer (some ⟨bn, 0, none⟩), .pointer (some ⟨bd, 0, none⟩)] w (Post E.cf (prApp E.cf R0) E t m L w (((S.note (rearmPoint wk n g 0 0 0 4)), some (pushK .tickets tk (.ret (.ra7 k)))))) := by
  have hn := hbd.of_note
  have HD := Go.Lib.hid (Did.refl t L w)
  have HG := Go.Lib.hid hg
  have HE := Go.Lib.hid henv
  obtain ⟨ghk, chk, hvhk, hgfhk, _⟩ := id hk
  subst hvhk
  have henhk : ∀ (args : Array Value) (w : World), (callFunc ghk args).run Tryz.prog w = .ok (.enter ghk args) w := hgfhk
  have Hhk := Go.Lib.hid hk
  clear hg henv hk hgfhk
  have q0_0 : w.cell? ⟨bj, 0, none⟩ = some (.pointer (some ⟨jb, 0, none⟩)) := HE.out.cell 0 0 rfl rfl
  have q1_0 : w.cell? ⟨bt, 0, none⟩ = some (.int .i64 tk) := HE.out.cell 1 0 rfl rfl
  have q2_0 : w.cell? ⟨bn, 0, none⟩ = some (.int .i64 n) := HE.out.cell 2 0 rfl rfl
  have q2_1 : w.cell? ⟨bn, 1, none⟩ = some (.int .i64 (g + 1)) := HE.out.cell 2 1 rfl rfl
  have q3_0 : w.cell? ⟨bd, 0, none⟩ = some (.int .i64 dl) := HE.out.cell 3 0 rfl rfl
  have q4_0 : w.cell? ⟨jb, 0, none⟩ = some (.pointer (some ⟨E.k, 0, none⟩)) := HE.out.cell 4 0 rfl rfl
  have q4_1 : w.cell? ⟨jb, 1, none⟩ = some (.int .i64 wk) := HE.out.cell 4 1 rfl rfl
  have q4_2 : w.cell? ⟨jb, 2, none⟩ = some (.int .i64 n) := HE.out.cell 4 2 rfl rfl
  have q4_3 : w.cell? ⟨jb, 3, none⟩ = some (.int .i64 g) := HE.out.cell 4 3 rfl rfl
  have q4_4 : w.cell? ⟨jb, 4, none⟩ = some (.func (.func ghk) #[] chk) := HE.out.cell 4 4 rfl rfl
  go_enter Tryz.func269, Tryz.ntmps269
  go_wp2_with fail
  refine (ra_point HG.out (HE.out.sub (env' := [(jb, [.pointer (some ⟨E.k, 0, none⟩), .int .i64 wk, .int .i64 n, .int .i64 g, .func (.func ghk) #[] chk])]) (by simp)) hn (fun w => rearmE_right wk n g 4 hw (by decide) w)).mono ?_
  rintro e w1 ⟨L1, rfl, hno⟩
  clear q0_0 q1_0 q2_0 q2_1 q3_0 q4_0 q4_1 q4_2 q4_3 q4_4
  replace HG := Go.Lib.hid (hno.good)
  replace HE := Go.Lib.hid (HE.out.ext (hno.shr.ext t))
  replace Hhk := Go.Lib.hid (ConSim.ext E.cf (prApp E.cf R0) E t Hhk.out (hno.shr.ext t))
  replace HD := Go.Lib.hid (HD.out.trans (hno.shr.did t))
  clear hno
  have q0_0 : w1.cell? ⟨bj, 0, none⟩ = some (.pointer (some ⟨jb, 0, none⟩)) := HE.out.cell 0 0 rfl rfl
  have q1_0 : w1.cell? ⟨bt, 0, none⟩ = some (.int .i64 tk) := HE.out.cell 1 0 rfl rfl
  have q2_0 : w1.cell? ⟨bn, 0, none⟩ = some (.int .i64 n) := HE.out.cell 2 0 rfl rfl
  have q2_1 : w1.cell? ⟨bn, 1, none⟩ = some (.int .i64 (g + 1)) := HE.out.cell 2 1 rfl rfl
  have q3_0 : w1.cell? ⟨bd, 0, none⟩ = some (.int .i64 dl) := HE.out.cell 3 0 rfl rfl
  have q4_0 : w1.cell? ⟨jb, 0, none⟩ = some (.pointer (some ⟨E.k, 0, none⟩)) := HE.out.cell 4 0 rfl rfl
  have q4_1 : w1.cell? ⟨jb, 1, none⟩ = some (.int .i64 wk) := HE.out.cell 4 1 rfl rfl
  have q4_2 : w1.cell? ⟨jb, 2, none⟩ = some (.int .i64 n) := HE.out.cell 4 2 rfl rfl
  have q4_3 : w1.cell? ⟨jb, 3, none⟩ = some (.int .i64 g) := HE.out.cell 4 3 rfl rfl
  have q4_4 : w1.cell? ⟨jb, 4, none⟩ = some (.func (.func ghk) #[] chk) := HE.out.cell 4 4 rfl rfl
  have HTK := Go.Lib.hid (arm_tickets HG.out)
  go_wp2
  have q0_0' : ∀ d os, (Sort.grow (redrawn w1 d) os).cell? ⟨bj, 0, none⟩ = some (.pointer (some ⟨jb, 0, none⟩)) := fun d os => cell_regrown q0_0 d os
  have q1_0' : ∀ d os, (Sort.grow (redrawn w1 d) os).cell? ⟨bt, 0, none⟩ = some (.int .i64 tk) := fun d os => cell_regrown q1_0 d os
  have q2_0' : ∀ d os, (Sort.grow (redrawn w1 d) os).cell? ⟨bn, 0, none⟩ = some (.int .i64 n) := fun d os => cell_regrown q2_0 d os
  have q2_1' : ∀ d os, (Sort.grow (redrawn w1 d) os).cell? ⟨bn, 1, none⟩ = some (.int .i64 (g + 1)) := fun d os => cell_regrown q2_1 d os
  have q3_0' : ∀ d os, (Sort.grow (redrawn w1 d) os).cell? ⟨bd, 0, none⟩ = some (.int .i64 dl) := fun d os => cell_regrown q3_0 d os
  have q4_0' : ∀ d os, (Sort.grow (redrawn w1 d) os).cell? ⟨jb, 0, none⟩ = some (.pointer (some ⟨E.k, 0, none⟩)) := fun d os => cell_regrown q4_0 d os
  have q4_1' : ∀ d os, (Sort.grow (redrawn w1 d) os).cell? ⟨jb, 1, none⟩ = some (.int .i64 wk) := fun d os => cell_regrown q4_1 d os
  have q4_2' : ∀ d os, (Sort.grow (redrawn w1 d) os).cell? ⟨jb, 2, none⟩ = some (.int .i64 n) := fun d os => cell_regrown q4_2 d os
  have q4_3' : ∀ d os, (Sort.grow (redrawn w1 d) os).cell? ⟨jb, 3, none⟩ = some (.int .i64 g) := fun d os => cell_regrown q4_3 d os
  have q4_4' : ∀ d os, (Sort.grow (redrawn w1 d) os).cell? ⟨jb, 4, none⟩ = some (.func (.func ghk) #[] chk) := fun d os => cell_regrown q4_4 d os
  refine wp_region_below_tail 7 (by kernel_rfl) (by kernel_rfl) ?_
  simp only [List.take_succ_cons, List.take_zero, List.drop_succ_cons, List.drop_zero]
  repeat (go_big_quiet_step (first
    | (go_at_call 24; rename_i p; exact Calls.regrown_of (HTK.out _ (below_regrown w1 p.d p.os)))))
  refine wpQuiet_nil ?_
  intro w2 hw'
  obtain ⟨p, rfl⟩ := hw'
  have hb := below_regrown w1 p.d p.os
  clear q0_0' q1_0' q2_0' q2_1' q3_0' q4_0' q4_1' q4_2' q4_3' q4_4' q0_0 q1_0 q2_0 q2_1 q3_0 q4_0 q4_1 q4_2 q4_3 q4_4
  generalize Sort.grow (redrawn w1 p.d) p.os = w2 at *
  replace HG := Go.Lib.hid (HG.out.below hb)
  replace HE := Go.Lib.hid (HE.out.ext (below_ext hb t L1))
  replace Hhk := Go.Lib.hid (ConSim.ext E.cf (prApp E.cf R0) E t Hhk.out (below_ext hb t L1))
  replace HD := Go.Lib.hid (HD.out.trans (below_did hb t L1))
  clear hb
  have q0_0 : w2.cell? ⟨bj, 0, none⟩ = some (.pointer (some ⟨jb, 0, none⟩)) := HE.out.cell 0 0 rfl rfl
  have q1_0 : w2.cell? ⟨bt, 0, none⟩ = some (.int .i64 tk) := HE.out.cell 1 0 rfl rfl
  have q2_0 : w2.cell? ⟨bn, 0, none⟩ = some (.int .i64 n) := HE.out.cell 2 0 rfl rfl
  have q2_1 : w2.cell? ⟨bn, 1, none⟩ = some (.int .i64 (g + 1)) := HE.out.cell 2 1 rfl rfl
  have q3_0 : w2.cell? ⟨bd, 0, none⟩ = some (.int .i64 dl) := HE.out.cell 3 0 rfl rfl
  have q4_0 : w2.cell? ⟨jb, 0, none⟩ = some (.pointer (some ⟨E.k, 0, none⟩)) := HE.out.cell 4 0 rfl rfl
  have q4_1 : w2.cell? ⟨jb, 1, none⟩ = some (.int .i64 wk) := HE.out.cell 4 1 rfl rfl
  have q4_2 : w2.cell? ⟨jb, 2, none⟩ = some (.int .i64 n) := HE.out.cell 4 2 rfl rfl
  have q4_3 : w2.cell? ⟨jb, 3, none⟩ = some (.int .i64 g) := HE.out.cell 4 3 rfl rfl
  have q4_4 : w2.cell? ⟨jb, 4, none⟩ = some (.func (.func ghk) #[] chk) := HE.out.cell 4 4 rfl rfl
  have HT := Go.Lib.hid (push_tickets hR (i := tk) HG.out (ra7_con (bj := bj) hR (HE.out.sub (env' := [(bj, [.pointer (some ⟨jb, 0, none⟩)]), (jb, [.pointer (some ⟨E.k, 0, none⟩), .int .i64 wk, .int .i64 n, .int .i64 g, .func (.func ghk) #[] chk])]) (by simp)) Hhk.out))
  go_wp2_with fail
  refine (HT.out).mono ?_
  rintro e w9 ⟨v2, L9, rfl, hd2, hg2, hc2⟩
  go_wp2
  go_ret
  exact ⟨v2, L9, rfl, HD.out.trans hd2, hg2, hc2⟩
set_option maxHeartbeats 2000000 in
theorem ra5_yes (hR : RMono (prApp E.cf R0)) {m : Nat} {wk n g : Int} {vk : Value} {k : PR ρ} {L : Lab} {w : World} {S : St} {jb : Nat} {bj bt bn bd : Nat} {dl tk : Int} (hg : Good E L S w) (henv : Env L w [(bj, [.pointer (some ⟨jb, 0, none⟩)]), (bt, [.int .i64 tk]), (bn, [.int .i64 n, .int .i64 (g + 1)]), (bd, [.int .i64 dl]), (jb, [.pointer (some ⟨E.k, 0, none⟩), .int .i64 wk, .int .i64 n, .int .i64 g, vk])]) (hk : ConSim E.cf (prApp E.cf R0) E t isHe m L w vk (.ret k)) (hw : 0 ≤ wk) (hnb : 0 ≤ n ∧ n ≤ 4294967294) (hgb : 0 ≤ g ∧ g ≤ 4294967294) (hdb : 0 ≤ dl ∧ dl ≤ 1073741823) (hbd : Bd (S.note (rearmPoint wk n g n (g + 1) dl 0))) :
    Calls Tryz.prog 269 #[.bool true, .pointer (some ⟨bj, 0, none⟩), .pointer (some ⟨bt, 0, none⟩), .pointer (some ⟨bn, 0, none⟩), .pointer (some ⟨bd, 0, none⟩)] w (Post E.cf (prApp E.cf R0) E t m L w (((S.note (rearmPoint wk n g n (g + 1) dl 0)), some (putK E.cf wk tk (.ra6 n (g + 1) k))))) := by
  have hn := hbd.of_note
  have HD := Go.Lib.hid (Did.refl t L w)
  have HG := Go.Lib.hid hg
  have HE := Go.Lib.hid henv
  obtain ⟨ghk, chk, hvhk, hgfhk, _⟩ := id hk
  subst hvhk
  have henhk : ∀ (args : Array Value) (w : World), (callFunc ghk args).run Tryz.prog w = .ok (.enter ghk args) w := hgfhk
  have Hhk := Go.Lib.hid hk
  clear hg henv hk hgfhk
  have q0_0 : w.cell? ⟨bj, 0, none⟩ = some (.pointer (some ⟨jb, 0, none⟩)) := HE.out.cell 0 0 rfl rfl
  have q1_0 : w.cell? ⟨bt, 0, none⟩ = some (.int .i64 tk) := HE.out.cell 1 0 rfl rfl
  have q2_0 : w.cell? ⟨bn, 0, none⟩ = some (.int .i64 n) := HE.out.cell 2 0 rfl rfl
  have q2_1 : w.cell? ⟨bn, 1, none⟩ = some (.int .i64 (g + 1)) := HE.out.cell 2 1 rfl rfl
  have q3_0 : w.cell? ⟨bd, 0, none⟩ = some (.int .i64 dl) := HE.out.cell 3 0 rfl rfl
  have q4_0 : w.cell? ⟨jb, 0, none⟩ = some (.pointer (some ⟨E.k, 0, none⟩)) := HE.out.cell 4 0 rfl rfl
  have q4_1 : w.cell? ⟨jb, 1, none⟩ = some (.int .i64 wk) := HE.out.cell 4 1 rfl rfl
  have q4_2 : w.cell? ⟨jb, 2, none⟩ = some (.int .i64 n) := HE.out.cell 4 2 rfl rfl
  have q4_3 : w.cell? ⟨jb, 3, none⟩ = some (.int .i64 g) := HE.out.cell 4 3 rfl rfl
  have q4_4 : w.cell? ⟨jb, 4, none⟩ = some (.func (.func ghk) #[] chk) := HE.out.cell 4 4 rfl rfl
  go_enter Tryz.func269, Tryz.ntmps269
  go_wp2_with fail
  refine (ra_point HG.out (HE.out.sub (env' := [(jb, [.pointer (some ⟨E.k, 0, none⟩), .int .i64 wk, .int .i64 n, .int .i64 g, .func (.func ghk) #[] chk])]) (by simp)) hn (fun w => rearm0_right wk n g n (g + 1) dl hw hnb.1 (by omega) hdb.1 w)).mono ?_
  rintro e w1 ⟨L1, rfl, hno⟩
  clear q0_0 q1_0 q2_0 q2_1 q3_0 q4_0 q4_1 q4_2 q4_3 q4_4
  replace HG := Go.Lib.hid (hno.good)
  replace HE := Go.Lib.hid (HE.out.ext (hno.shr.ext t))
  replace Hhk := Go.Lib.hid (ConSim.ext E.cf (prApp E.cf R0) E t Hhk.out (hno.shr.ext t))
  replace HD := Go.Lib.hid (HD.out.trans (hno.shr.did t))
  clear hno
  have q0_0 : w1.cell? ⟨bj, 0, none⟩ = some (.pointer (some ⟨jb, 0, none⟩)) := HE.out.cell 0 0 rfl rfl
  have q1_0 : w1.cell? ⟨bt, 0, none⟩ = some (.int .i64 tk) := HE.out.cell 1 0 rfl rfl
  have q2_0 : w1.cell? ⟨bn, 0, none⟩ = some (.int .i64 n) := HE.out.cell 2 0 rfl rfl
  have q2_1 : w1.cell? ⟨bn, 1, none⟩ = some (.int .i64 (g + 1)) := HE.out.cell 2 1 rfl rfl
  have q3_0 : w1.cell? ⟨bd, 0, none⟩ = some (.int .i64 dl) := HE.out.cell 3 0 rfl rfl
  have q4_0 : w1.cell? ⟨jb, 0, none⟩ = some (.pointer (some ⟨E.k, 0, none⟩)) := HE.out.cell 4 0 rfl rfl
  have q4_1 : w1.cell? ⟨jb, 1, none⟩ = some (.int .i64 wk) := HE.out.cell 4 1 rfl rfl
  have q4_2 : w1.cell? ⟨jb, 2, none⟩ = some (.int .i64 n) := HE.out.cell 4 2 rfl rfl
  have q4_3 : w1.cell? ⟨jb, 3, none⟩ = some (.int .i64 g) := HE.out.cell 4 3 rfl rfl
  have q4_4 : w1.cell? ⟨jb, 4, none⟩ = some (.func (.func ghk) #[] chk) := HE.out.cell 4 4 rfl rfl
  have HBX := Go.Lib.hid (arm_box HG.out wk)
  go_wp2
  have q0_0' : ∀ d os, (Sort.grow (redrawn w1 d) os).cell? ⟨bj, 0, none⟩ = some (.pointer (some ⟨jb, 0, none⟩)) := fun d os => cell_regrown q0_0 d os
  have q1_0' : ∀ d os, (Sort.grow (redrawn w1 d) os).cell? ⟨bt, 0, none⟩ = some (.int .i64 tk) := fun d os => cell_regrown q1_0 d os
  have q2_0' : ∀ d os, (Sort.grow (redrawn w1 d) os).cell? ⟨bn, 0, none⟩ = some (.int .i64 n) := fun d os => cell_regrown q2_0 d os
  have q2_1' : ∀ d os, (Sort.grow (redrawn w1 d) os).cell? ⟨bn, 1, none⟩ = some (.int .i64 (g + 1)) := fun d os => cell_regrown q2_1 d os
  have q3_0' : ∀ d os, (Sort.grow (redrawn w1 d) os).cell? ⟨bd, 0, none⟩ = some (.int .i64 dl) := fun d os => cell_regrown q3_0 d os
  have q4_0' : ∀ d os, (Sort.grow (redrawn w1 d) os).cell? ⟨jb, 0, none⟩ = some (.pointer (some ⟨E.k, 0, none⟩)) := fun d os => cell_regrown q4_0 d os
  have q4_1' : ∀ d os, (Sort.grow (redrawn w1 d) os).cell? ⟨jb, 1, none⟩ = some (.int .i64 wk) := fun d os => cell_regrown q4_1 d os
  have q4_2' : ∀ d os, (Sort.grow (redrawn w1 d) os).cell? ⟨jb, 2, none⟩ = some (.int .i64 n) := fun d os => cell_regrown q4_2 d os
  have q4_3' : ∀ d os, (Sort.grow (redrawn w1 d) os).cell? ⟨jb, 3, none⟩ = some (.int .i64 g) := fun d os => cell_regrown q4_3 d os
  have q4_4' : ∀ d os, (Sort.grow (redrawn w1 d) os).cell? ⟨jb, 4, none⟩ = some (.func (.func ghk) #[] chk) := fun d os => cell_regrown q4_4 d os
  refine wp_region_below_tail 11 (by kernel_rfl) (by kernel_rfl) ?_
  simp only [List.take_succ_cons, List.take_zero, List.drop_succ_cons, List.drop_zero]
  repeat (go_big_quiet_step (first
    | (go_at_call 30; rename_i p; exact Calls.regrown_of (HBX.out _ (below_regrown w1 p.d p.os)))))
  refine wpQuiet_nil ?_
  intro w2 hw'
  obtain ⟨p, rfl⟩ := hw'
  have hb := below_regrown w1 p.d p.os
  clear q0_0' q1_0' q2_0' q2_1' q3_0' q4_0' q4_1' q4_2' q4_3' q4_4' q0_0 q1_0 q2_0 q2_1 q3_0 q4_0 q4_1 q4_2 q4_3 q4_4
  generalize Sort.grow (redrawn w1 p.d) p.os = w2 at *
  replace HG := Go.Lib.hid (HG.out.below hb)
  replace HE := Go.Lib.hid (HE.out.ext (below_ext hb t L1))
  replace Hhk := Go.Lib.hid (ConSim.ext E.cf (prApp E.cf R0) E t Hhk.out (below_ext hb t L1))
  replace HD := Go.Lib.hid (HD.out.trans (below_did hb t L1))
  clear hb
  have q0_0 : w2.cell? ⟨bj, 0, none⟩ = some (.pointer (some ⟨jb, 0, none⟩)) := HE.out.cell 0 0 rfl rfl
  have q1_0 : w2.cell? ⟨bt, 0, none⟩ = some (.int .i64 tk) := HE.out.cell 1 0 rfl rfl
  have q2_0 : w2.cell? ⟨bn, 0, none⟩ = some (.int .i64 n) := HE.out.cell 2 0 rfl rfl
  have q2_1 : w2.cell? ⟨bn, 1, none⟩ = some (.int .i64 (g + 1)) := HE.out.cell 2 1 rfl rfl
  have q3_0 : w2.cell? ⟨bd, 0, none⟩ = some (.int .i64 dl) := HE.out.cell 3 0 rfl rfl
  have q4_0 : w2.cell? ⟨jb, 0, none⟩ = some (.pointer (some ⟨E.k, 0, none⟩)) := HE.out.cell 4 0 rfl rfl
  have q4_1 : w2.cell? ⟨jb, 1, none⟩ = some (.int .i64 wk) := HE.out.cell 4 1 rfl rfl
  have q4_2 : w2.cell? ⟨jb, 2, none⟩ = some (.int .i64 n) := HE.out.cell 4 2 rfl rfl
  have q4_3 : w2.cell? ⟨jb, 3, none⟩ = some (.int .i64 g) := HE.out.cell 4 3 rfl rfl
  have q4_4 : w2.cell? ⟨jb, 4, none⟩ = some (.func (.func ghk) #[] chk) := HE.out.cell 4 4 rfl rfl
  have HT := Go.Lib.hid (put_at hR (s := wk) (tk := tk) HG.out (ra6_con (bj := bj) (bn := bn) hR (HE.out.sub (env' := [(bj, [.pointer (some ⟨jb, 0, none⟩)]), (bn, [.int .i64 n, .int .i64 (g + 1)]), (jb, [.pointer (some ⟨E.k, 0, none⟩), .int .i64 wk, .int .i64 n, .int .i64 g, .func (.func ghk) #[] chk])]) (by simp)) Hhk.out hnb hgb))
  go_wp2_with fail
  refine (HT.out).mono ?_
  rintro e w9 ⟨v2, L9, rfl, hd2, hg2, hc2⟩
  go_wp2
  go_ret
  exact ⟨v2, L9, rfl, HD.out.trans hd2, hg2, hc2⟩
theorem ra5_con (hR : RMono (prApp E.cf R0)) {m : Nat} {wk n g : Int} {vk : Value} {k : PR ρ} {L : Lab} {w : World} {jb : Nat} {bj bt bn bd : Nat} {dl tk : Int} (henv : Env L w [(bj, [.pointer (some ⟨jb, 0, none⟩)]), (bt, [.int .i64 tk]), (bn, [.int .i64 n, .int .i64 (g + 1)]), (bd, [.int .i64 dl]), (jb, [.pointer (some ⟨E.k, 0, none⟩), .int .i64 wk, .int .i64 n, .int .i64 g, vk])]) (hk : ConSim E.cf (prApp E.cf R0) E t isHe m L w vk (.ret k)) (hw : 0 ≤ wk) (hnb : 0 ≤ n ∧ n ≤ 4294967294) (hgb : 0 ≤ g ∧ g ≤ 4294967294) (hdb : 0 ≤ dl ∧ dl ≤ 1073741823) :
    ConSim E.cf (prApp E.cf R0) E t isB m L w (.func (.func 269) #[] #[.pointer (some ⟨bj, 0, none⟩), .pointer (some ⟨bt, 0, none⟩), .pointer (some ⟨bn, 0, none⟩), .pointer (some ⟨bd, 0, none⟩)]) (.ret (.ra5 wk n g tk dl k)) := by
  refine ⟨_, _, rfl, enters_of Tryz.func269 (by kernel_rfl) rfl, ?_⟩
  intro a L' w' S ha hx hg hbd
  cases a with
  | b ok =>
    show Calls _ _ #[_, _, _, _, _] _ _
    cases ok with
    | true => exact ra5_yes hR hg (henv.ext hx) (ConSim.ext E.cf (prApp E.cf R0) E t hk hx) hw hnb hgb hdb hbd
    | false => exact ra5_no hR hg (henv.ext hx) (ConSim.ext E.cf (prApp E.cf R0) E t hk hx) hw hnb hgb hdb hbd
  | _ => exact absurd ha (by simp [isB])
set_option maxHeartbeats 2000000 in
theorem ra_turn (hR : RMono (prApp E.cf R0)) {m : Nat} {wk n g : Int} {vk : Value} {k : PR ρ} {L : Lab} {w : World} {S : St} {jb : Nat} {x : Nat} {dl tk : Int} (hg : Good E L S w) (henv : Env L w [(jb, [.pointer (some ⟨E.k, 0, none⟩), .int .i64 wk, .int .i64 n, .int .i64 g, vk])]) (hk : ConSim E.cf (prApp E.cf R0) E t isHe m L w vk (.ret k)) (hw : 0 ≤ wk) (hnb : 0 ≤ n ∧ n ≤ 4294967294) (hgb : 0 ≤ g ∧ g ≤ 4294967294) (hdb : 0 ≤ dl ∧ dl ≤ 1073741823) :
    Calls Tryz.prog 255 #[.pointer (some ⟨jb, 0, none⟩), .int .u64 x, .int .i64 tk, .int .i64 dl] w (Post E.cf (prApp E.cf R0) E t m L w ((S, some (.cas (E.cf.state n) x (stateWord (g + 1) dl 1) (.ret (.ra5 wk n g tk dl k)))))) := by
  have HD := Go.Lib.hid (Did.refl t L w)
  have HG := Go.Lib.hid hg
  have HE := Go.Lib.hid henv
  obtain ⟨ghk, chk, hvhk, hgfhk, _⟩ := id hk
  subst hvhk
  have henhk : ∀ (args : Array Value) (w : World), (callFunc ghk args).run Tryz.prog w = .ok (.enter ghk args) w := hgfhk
  have Hhk := Go.Lib.hid hk
  clear hg henv hk hgfhk
  have hwg : IntKind.i64.wrap (g + 1) = g + 1 := IntWalk.i64_in _ (by omega)
  have hb0 : Below w.heap.size w (((w.alloc (.cells #[.pointer (some ⟨jb, 0, none⟩)] 197)).alloc (.cells #[.int .i64 tk] 3)).alloc (.cells #[.int .i64 dl] 3)) := ((((Below.refl _ _).alloc (Nat.le_refl _) _).alloc (by first | (simp; done) | (simp; omega)) _).alloc (by first | (simp; done) | (simp; omega)) _)
  have HE0 : Hid (Env L (((w.alloc (.cells #[.pointer (some ⟨jb, 0, none⟩)] 197)).alloc (.cells #[.int .i64 tk] 3)).alloc (.cells #[.int .i64 dl] 3)) [(w.heap.size + 1 + 1, [.int .i64 dl]), (w.heap.size + 1, [.int .i64 tk]), (w.heap.size, [.pointer (some ⟨jb, 0, none⟩)]), (jb, [.pointer (some ⟨E.k, 0, none⟩), .int .i64 wk, .int .i64 n, .int .i64 g, .func (.func ghk) #[] chk])]) := Go.Lib.hid (Env.alloc_at (Env.alloc_at (Env.alloc_at HE.out (fun b hb => HG.out.new b (by first | exact hb | (simp at hb; omega))) [.pointer (some ⟨jb, 0, none⟩)] 197 (b := w.heap.size) (by first | rfl | (simp; done) | (simp; omega))) (fun b hb => HG.out.new b (by first | exact hb | (simp at hb; omega))) [.int .i64 tk] 3 (b := w.heap.size + 1) (by first | rfl | (simp; done) | (simp; omega))) (fun b hb => HG.out.new b (by first | exact hb | (simp at hb; omega))) [.int .i64 dl] 3 (b := w.heap.size + 1 + 1) (by first | rfl | (simp; done) | (simp; omega)))
  replace HG := Go.Lib.hid (HG.out.below hb0)
  replace HE := Go.Lib.hid (HE0.out)
  replace Hhk := Go.Lib.hid (ConSim.ext E.cf (prApp E.cf R0) E t Hhk.out (below_ext hb0 t L))
  replace HD := Go.Lib.hid (HD.out.trans (below_did hb0 t L))
  clear hb0 HE0
  have q0_0 : (((w.alloc (.cells #[.pointer (some ⟨jb, 0, none⟩)] 197)).alloc (.cells #[.int .i64 tk] 3)).alloc (.cells #[.int .i64 dl] 3)).cell? ⟨w.heap.size + 1 + 1, 0, none⟩ = some (.int .i64 dl) := HE.out.cell 0 0 rfl rfl
  have q1_0 : (((w.alloc (.cells #[.pointer (some ⟨jb, 0, none⟩)] 197)).alloc (.cells #[.int .i64 tk] 3)).alloc (.cells #[.int .i64 dl] 3)).cell? ⟨w.heap.size + 1, 0, none⟩ = some (.int .i64 tk) := HE.out.cell 1 0 rfl rfl
  have q2_0 : (((w.alloc (.cells #[.pointer (some ⟨jb, 0, none⟩)] 197)).alloc (.cells #[.int .i64 tk] 3)).alloc (.cells #[.int .i64 dl] 3)).cell? ⟨w.heap.size, 0, none⟩ = some (.pointer (some ⟨jb, 0, none⟩)) := HE.out.cell 2 0 rfl rfl
  have q3_0 : (((w.alloc (.cells #[.pointer (some ⟨jb, 0, none⟩)] 197)).alloc (.cells #[.int .i64 tk] 3)).alloc (.cells #[.int .i64 dl] 3)).cell? ⟨jb, 0, none⟩ = some (.pointer (some ⟨E.k, 0, none⟩)) := HE.out.cell 3 0 rfl rfl
  have q3_1 : (((w.alloc (.cells #[.pointer (some ⟨jb, 0, none⟩)] 197)).alloc (.cells #[.int .i64 tk] 3)).alloc (.cells #[.int .i64 dl] 3)).cell? ⟨jb, 1, none⟩ = some (.int .i64 wk) := HE.out.cell 3 1 rfl rfl
  have q3_2 : (((w.alloc (.cells #[.pointer (some ⟨jb, 0, none⟩)] 197)).alloc (.cells #[.int .i64 tk] 3)).alloc (.cells #[.int .i64 dl] 3)).cell? ⟨jb, 2, none⟩ = some (.int .i64 n) := HE.out.cell 3 2 rfl rfl
  have q3_3 : (((w.alloc (.cells #[.pointer (some ⟨jb, 0, none⟩)] 197)).alloc (.cells #[.int .i64 tk] 3)).alloc (.cells #[.int .i64 dl] 3)).cell? ⟨jb, 3, none⟩ = some (.int .i64 g) := HE.out.cell 3 3 rfl rfl
  have q3_4 : (((w.alloc (.cells #[.pointer (some ⟨jb, 0, none⟩)] 197)).alloc (.cells #[.int .i64 tk] 3)).alloc (.cells #[.int .i64 dl] 3)).cell? ⟨jb, 4, none⟩ = some (.func (.func ghk) #[] chk) := HE.out.cell 3 4 rfl rfl
  go_enter Tryz.func255, Tryz.ntmps255
  go_wp2
  generalize (((w.alloc (.cells #[.pointer (some ⟨jb, 0, none⟩)] 197)).alloc (.cells #[.int .i64 tk] 3)).alloc (.cells #[.int .i64 dl] 3)) = w0 at *
  have HWD : Hid (∀ w, Calls Tryz.prog 165 #[.agg #[.int .i64 (g + 1), .int .i64 dl, .int .i64 1]] w fun e w' => e = .returned (.tuple #[.int .u64 (stateWord (g + 1) dl 1 : Nat), .int .i64 (packed [32, 30, 2] [g + 1, dl, 1]).2]) ∧ Below w.heap.size w w') := fun w => word_State (g + 1) dl 1 w (by omega) (by omega) (by omega)
  generalize (packed [32, 30, 2] [g + 1, dl, 1]).2 = e2 at *
  have HSL := Go.Lib.hid (stateWord_lt (g + 1) dl 1)
  generalize stateWord (g + 1) dl 1 = sw at *
  have hb1 : Below w0.heap.size w0 (w0.alloc (.cells #[.int .i64 n, .int .i64 (g + 1)] 46)) := (Below.refl _ _).alloc (Nat.le_refl _) _
  have hb := hb1.drew
  have HE0 := Go.Lib.hid ((Env.alloc_at HE.out (fun b hb => HG.out.new b hb) [.int .i64 n, .int .i64 (g + 1)] 46 (b := w0.heap.size) rfl).below ((Below.refl _ _).drew))
  have n0_0 := World.new_ne w0 _ q0_0
  have n1_0 := World.new_ne w0 _ q1_0
  have n2_0 := World.new_ne w0 _ q2_0
  have n3_0 := World.new_ne w0 _ q3_0
  have n3_1 := World.new_ne w0 _ q3_1
  have n3_2 := World.new_ne w0 _ q3_2
  have n3_3 := World.new_ne w0 _ q3_3
  have n3_4 := World.new_ne w0 _ q3_4
  go_region_held3 (fun w' => w'.cell? ⟨w.heap.size + 1 + 1, 0, none⟩ = some (.int .i64 dl) ∧ w'.cell? ⟨w.heap.size + 1, 0, none⟩ = some (.int .i64 tk) ∧ w'.cell? ⟨w.heap.size, 0, none⟩ = some (.pointer (some ⟨jb, 0, none⟩)) ∧ w'.cell? ⟨jb, 0, none⟩ = some (.pointer (some ⟨E.k, 0, none⟩)) ∧ w'.cell? ⟨jb, 1, none⟩ = some (.int .i64 wk) ∧ w'.cell? ⟨jb, 2, none⟩ = some (.int .i64 n) ∧ w'.cell? ⟨jb, 3, none⟩ = some (.int .i64 g) ∧ w'.cell? ⟨jb, 4, none⟩ = some (.func (.func ghk) #[] chk))
    (first | exact ⟨q0_0, q1_0, q2_0, q3_0, q3_1, q3_2, q3_3, q3_4⟩ | go_keep)
    (fail)
  go_wp2_with fail
  clear n0_0 n1_0 n2_0 n3_0 n3_1 n3_2 n3_3 n3_4 q0_0 q1_0 q2_0 q3_0 q3_1 q3_2 q3_3 q3_4 hb1
  generalize (w0.alloc (.cells #[.int .i64 n, .int .i64 (g + 1)] 46)).drew = w1 at *
  replace HG := Go.Lib.hid (HG.out.below hb)
  replace HE := Go.Lib.hid (HE0.out)
  replace Hhk := Go.Lib.hid (ConSim.ext E.cf (prApp E.cf R0) E t Hhk.out (below_ext hb t L))
  replace HD := Go.Lib.hid (HD.out.trans (below_did hb t L))
  clear hb HE0
  have q0_0 : w1.cell? ⟨w0.heap.size, 0, none⟩ = some (.int .i64 n) := HE.out.cell 0 0 rfl rfl
  have q0_1 : w1.cell? ⟨w0.heap.size, 1, none⟩ = some (.int .i64 (g + 1)) := HE.out.cell 0 1 rfl rfl
  have q1_0 : w1.cell? ⟨w.heap.size + 1 + 1, 0, none⟩ = some (.int .i64 dl) := HE.out.cell 1 0 rfl rfl
  have q2_0 : w1.cell? ⟨w.heap.size + 1, 0, none⟩ = some (.int .i64 tk) := HE.out.cell 2 0 rfl rfl
  have q3_0 : w1.cell? ⟨w.heap.size, 0, none⟩ = some (.pointer (some ⟨jb, 0, none⟩)) := HE.out.cell 3 0 rfl rfl
  have q4_0 : w1.cell? ⟨jb, 0, none⟩ = some (.pointer (some ⟨E.k, 0, none⟩)) := HE.out.cell 4 0 rfl rfl
  have q4_1 : w1.cell? ⟨jb, 1, none⟩ = some (.int .i64 wk) := HE.out.cell 4 1 rfl rfl
  have q4_2 : w1.cell? ⟨jb, 2, none⟩ = some (.int .i64 n) := HE.out.cell 4 2 rfl rfl
  have q4_3 : w1.cell? ⟨jb, 3, none⟩ = some (.int .i64 g) := HE.out.cell 4 3 rfl rfl
  have q4_4 : w1.cell? ⟨jb, 4, none⟩ = some (.func (.func ghk) #[] chk) := HE.out.cell 4 4 rfl rfl
  refine (HWD.out _).mono ?_
  rintro e w2 ⟨rfl, hb⟩
  clear q0_0 q0_1 q1_0 q2_0 q3_0 q4_0 q4_1 q4_2 q4_3 q4_4
  replace HG := Go.Lib.hid (HG.out.below hb)
  replace HE := Go.Lib.hid (HE.out.ext (below_ext hb t L))
  replace Hhk := Go.Lib.hid (ConSim.ext E.cf (prApp E.cf R0) E t Hhk.out (below_ext hb t L))
  replace HD := Go.Lib.hid (HD.out.trans (below_did hb t L))
  clear hb
  have q0_0 : w2.cell? ⟨w0.heap.size, 0, none⟩ = some (.int .i64 n) := HE.out.cell 0 0 rfl rfl
  have q0_1 : w2.cell? ⟨w0.heap.size, 1, none⟩ = some (.int .i64 (g + 1)) := HE.out.cell 0 1 rfl rfl
  have q1_0 : w2.cell? ⟨w.heap.size + 1 + 1, 0, none⟩ = some (.int .i64 dl) := HE.out.cell 1 0 rfl rfl
  have q2_0 : w2.cell? ⟨w.heap.size + 1, 0, none⟩ = some (.int .i64 tk) := HE.out.cell 2 0 rfl rfl
  have q3_0 : w2.cell? ⟨w.heap.size, 0, none⟩ = some (.pointer (some ⟨jb, 0, none⟩)) := HE.out.cell 3 0 rfl rfl
  have q4_0 : w2.cell? ⟨jb, 0, none⟩ = some (.pointer (some ⟨E.k, 0, none⟩)) := HE.out.cell 4 0 rfl rfl
  have q4_1 : w2.cell? ⟨jb, 1, none⟩ = some (.int .i64 wk) := HE.out.cell 4 1 rfl rfl
  have q4_2 : w2.cell? ⟨jb, 2, none⟩ = some (.int .i64 n) := HE.out.cell 4 2 rfl rfl
  have q4_3 : w2.cell? ⟨jb, 3, none⟩ = some (.int .i64 g) := HE.out.cell 4 3 rfl rfl
  have q4_4 : w2.cell? ⟨jb, 4, none⟩ = some (.func (.func ghk) #[] chk) := HE.out.cell 4 4 rfl rfl
  have HCE := Go.Lib.hid (arm_cells HG.out)
  have HAT := Go.Lib.hid (arm_at HG.out n (g + 1))
  go_wp2
  have q0_0' : ∀ d os, (Sort.grow (redrawn w2 d) os).cell? ⟨w0.heap.size, 0, none⟩ = some (.int .i64 n) := fun d os => cell_regrown q0_0 d os
  have q0_1' : ∀ d os, (Sort.grow (redrawn w2 d) os).cell? ⟨w0.heap.size, 1, none⟩ = some (.int .i64 (g + 1)) := fun d os => cell_regrown q0_1 d os
  have q1_0' : ∀ d os, (Sort.grow (redrawn w2 d) os).cell? ⟨w.heap.size + 1 + 1, 0, none⟩ = some (.int .i64 dl) := fun d os => cell_regrown q1_0 d os
  have q2_0' : ∀ d os, (Sort.grow (redrawn w2 d) os).cell? ⟨w.heap.size + 1, 0, none⟩ = some (.int .i64 tk) := fun d os => cell_regrown q2_0 d os
  have q3_0' : ∀ d os, (Sort.grow (redrawn w2 d) os).cell? ⟨w.heap.size, 0, none⟩ = some (.pointer (some ⟨jb, 0, none⟩)) := fun d os => cell_regrown q3_0 d os
  have q4_0' : ∀ d os, (Sort.grow (redrawn w2 d) os).cell? ⟨jb, 0, none⟩ = some (.pointer (some ⟨E.k, 0, none⟩)) := fun d os => cell_regrown q4_0 d os
  have q4_1' : ∀ d os, (Sort.grow (redrawn w2 d) os).cell? ⟨jb, 1, none⟩ = some (.int .i64 wk) := fun d os => cell_regrown q4_1 d os
  have q4_2' : ∀ d os, (Sort.grow (redrawn w2 d) os).cell? ⟨jb, 2, none⟩ = some (.int .i64 n) := fun d os => cell_regrown q4_2 d os
  have q4_3' : ∀ d os, (Sort.grow (redrawn w2 d) os).cell? ⟨jb, 3, none⟩ = some (.int .i64 g) := fun d os => cell_regrown q4_3 d os
  have q4_4' : ∀ d os, (Sort.grow (redrawn w2 d) os).cell? ⟨jb, 4, none⟩ = some (.func (.func ghk) #[] chk) := fun d os => cell_regrown q4_4 d os
  refine wp_region_below_tail 14 (by kernel_rfl) (by kernel_rfl) ?_
  simp only [List.take_succ_cons, List.take_zero, List.drop_succ_cons, List.drop_zero]
  repeat (go_big_quiet_step (first
    | (go_at_call 44; rename_i p; exact Calls.regrown_of (HCE.out _ (below_regrown w2 p.d p.os)))
    | (go_at_call 161; rename_i p; exact Calls.regrown_of (HAT.out _ (below_regrown w2 p.d p.os)))))
  refine wpQuiet_nil ?_
  intro w3 hw'
  obtain ⟨p, rfl⟩ := hw'
  have hb := below_regrown w2 p.d p.os
  clear q0_0' q0_1' q1_0' q2_0' q3_0' q4_0' q4_1' q4_2' q4_3' q4_4' q0_0 q0_1 q1_0 q2_0 q3_0 q4_0 q4_1 q4_2 q4_3 q4_4
  generalize Sort.grow (redrawn w2 p.d) p.os = w3 at *
  replace HG := Go.Lib.hid (HG.out.below hb)
  replace HE := Go.Lib.hid (HE.out.ext (below_ext hb t L))
  replace Hhk := Go.Lib.hid (ConSim.ext E.cf (prApp E.cf R0) E t Hhk.out (below_ext hb t L))
  replace HD := Go.Lib.hid (HD.out.trans (below_did hb t L))
  clear hb
  have q0_0 : w3.cell? ⟨w0.heap.size, 0, none⟩ = some (.int .i64 n) := HE.out.cell 0 0 rfl rfl
  have q0_1 : w3.cell? ⟨w0.heap.size, 1, none⟩ = some (.int .i64 (g + 1)) := HE.out.cell 0 1 rfl rfl
  have q1_0 : w3.cell? ⟨w.heap.size + 1 + 1, 0, none⟩ = some (.int .i64 dl) := HE.out.cell 1 0 rfl rfl
  have q2_0 : w3.cell? ⟨w.heap.size + 1, 0, none⟩ = some (.int .i64 tk) := HE.out.cell 2 0 rfl rfl
  have q3_0 : w3.cell? ⟨w.heap.size, 0, none⟩ = some (.pointer (some ⟨jb, 0, none⟩)) := HE.out.cell 3 0 rfl rfl
  have q4_0 : w3.cell? ⟨jb, 0, none⟩ = some (.pointer (some ⟨E.k, 0, none⟩)) := HE.out.cell 4 0 rfl rfl
  have q4_1 : w3.cell? ⟨jb, 1, none⟩ = some (.int .i64 wk) := HE.out.cell 4 1 rfl rfl
  have q4_2 : w3.cell? ⟨jb, 2, none⟩ = some (.int .i64 n) := HE.out.cell 4 2 rfl rfl
  have q4_3 : w3.cell? ⟨jb, 3, none⟩ = some (.int .i64 g) := HE.out.cell 4 3 rfl rfl
  have q4_4 : w3.cell? ⟨jb, 4, none⟩ = some (.func (.func ghk) #[] chk) := HE.out.cell 4 4 rfl rfl
  have HT := Go.Lib.hid (cas_at hR (i := E.cf.state n) (old := x) HSL.out HG.out (ra5_con (dl := dl) (tk := tk) (k := k) hR (HE.out.sub (env' := [(w.heap.size, [.pointer (some ⟨jb, 0, none⟩)]), (w.heap.size + 1, [.int .i64 tk]), (w0.heap.size, [.int .i64 n, .int .i64 (g + 1)]), (w.heap.size + 1 + 1, [.int .i64 dl]), (jb, [.pointer (some ⟨E.k, 0, none⟩), .int .i64 wk, .int .i64 n, .int .i64 g, .func (.func ghk) #[] chk])]) (by simp)) Hhk.out hw hnb hgb hdb))
  go_wp2_with fail
  refine (HT.out).mono ?_
  rintro e w9 ⟨v2, L9, rfl, hd2, hg2, hc2⟩
  go_wp2
  go_ret
  exact ⟨v2, L9, rfl, HD.out.trans hd2, hg2, hc2⟩
set_option maxHeartbeats 2000000 in
theorem ra4_call (hR : RMono (prApp E.cf R0)) {m : Nat} {wk n g : Int} {vk : Value} {k : PR ρ} {L : Lab} {w : World} {S : St} {jb : Nat} {bj bx bt bd : Nat} {x : Nat} {dl tk : Int} (hg : Good E L S w) (henv : Env L w [(bj, [.pointer (some ⟨jb, 0, none⟩)]), (bx, [.int .u64 x]), (bt, [.int .i64 tk]), (bd, [.int .i64 dl]), (jb, [.pointer (some ⟨E.k, 0, none⟩), .int .i64 wk, .int .i64 n, .int .i64 g, vk])]) (hk : ConSim E.cf (prApp E.cf R0) E t isHe m L w vk (.ret k)) (hw : 0 ≤ wk) (hnb : 0 ≤ n ∧ n ≤ 4294967294) (hgb : 0 ≤ g ∧ g ≤ 4294967294) (hdb : 0 ≤ dl ∧ dl ≤ 1073741823) :
    Calls Tryz.prog 254 #[.pointer (some ⟨bj, 0, none⟩), .pointer (some ⟨bx, 0, none⟩), .pointer (some ⟨bt, 0, none⟩), .pointer (some ⟨bd, 0, none⟩)] w (Post E.cf (prApp E.cf R0) E t m L w ((S, some (.cas (E.cf.state n) x (stateWord (g + 1) dl 1) (.ret (.ra5 wk n g tk dl k)))))) := by
  have HD := Go.Lib.hid (Did.refl t L w)
  have HG := Go.Lib.hid hg
  have HE := Go.Lib.hid henv
  obtain ⟨ghk, chk, hvhk, hgfhk, _⟩ := id hk
  subst hvhk
  have henhk : ∀ (args : Array Value) (w : World), (callFunc ghk args).run Tryz.prog w = .ok (.enter ghk args) w := hgfhk
  have Hhk := Go.Lib.hid hk
  clear hg henv hk hgfhk
  have q0_0 : w.cell? ⟨bj, 0, none⟩ = some (.pointer (some ⟨jb, 0, none⟩)) := HE.out.cell 0 0 rfl rfl
  have q1_0 : w.cell? ⟨bx, 0, none⟩ = some (.int .u64 x) := HE.out.cell 1 0 rfl rfl
  have q2_0 : w.cell? ⟨bt, 0, none⟩ = some (.int .i64 tk) := HE.out.cell 2 0 rfl rfl
  have q3_0 : w.cell? ⟨bd, 0, none⟩ = some (.int .i64 dl) := HE.out.cell 3 0 rfl rfl
  have q4_0 : w.cell? ⟨jb, 0, none⟩ = some (.pointer (some ⟨E.k, 0, none⟩)) := HE.out.cell 4 0 rfl rfl
  have q4_1 : w.cell? ⟨jb, 1, none⟩ = some (.int .i64 wk) := HE.out.cell 4 1 rfl rfl
  have q4_2 : w.cell? ⟨jb, 2, none⟩ = some (.int .i64 n) := HE.out.cell 4 2 rfl rfl
  have q4_3 : w.cell? ⟨jb, 3, none⟩ = some (.int .i64 g) := HE.out.cell 4 3 rfl rfl
  have q4_4 : w.cell? ⟨jb, 4, none⟩ = some (.func (.func ghk) #[] chk) := HE.out.cell 4 4 rfl rfl
  go_enter Tryz.func254, Tryz.ntmps254
  go_wp2_with fail
  refine (ra_turn (x := x) hR HG.out (HE.out.sub (env' := [(jb, [.pointer (some ⟨E.k, 0, none⟩), .int .i64 wk, .int .i64 n, .int .i64 g, .func (.func ghk) #[] chk])]) (by simp)) Hhk.out hw hnb hgb hdb).mono ?_
  rintro e w9 ⟨v2, L9, rfl, hd2, hg2, hc2⟩
  go_wp2
  go_ret
  exact ⟨v2, L9, rfl, HD.out.trans hd2, hg2, hc2⟩
theorem ra4_con (hR : RMono (prApp E.cf R0)) {m : Nat} {wk n g : Int} {vk : Value} {k : PR ρ} {L : Lab} {w : World} {jb : Nat} {bj bx bt bd : Nat} {x : Nat} {dl tk : Int} (henv : Env L w [(bj, [.pointer (some ⟨jb, 0, none⟩)]), (bx, [.int .u64 x]), (bt, [.int .i64 tk]), (bd, [.int .i64 dl]), (jb, [.pointer (some ⟨E.k, 0, none⟩), .int .i64 wk, .int .i64 n, .int .i64 g, vk])]) (hk : ConSim E.cf (prApp E.cf R0) E t isHe m L w vk (.ret k)) (hw : 0 ≤ wk) (hnb : 0 ≤ n ∧ n ≤ 4294967294) (hgb : 0 ≤ g ∧ g ≤ 4294967294) (hdb : 0 ≤ dl ∧ dl ≤ 1073741823) :
    ConSim E.cf (prApp E.cf R0) E t isU m L w (.func (.func 254) #[] #[.pointer (some ⟨bj, 0, none⟩), .pointer (some ⟨bx, 0, none⟩), .pointer (some ⟨bt, 0, none⟩), .pointer (some ⟨bd, 0, none⟩)]) (.ret (.ra4 wk n g x tk dl k)) := by
  refine ⟨_, _, rfl, enters_of Tryz.func254 (by kernel_rfl) rfl, ?_⟩
  intro a L' w' S ha hx hg hbd
  cases a with
  | u =>
    show Calls _ _ #[_, _, _, _] _ _
    exact ra4_call hR hg (henv.ext hx) (ConSim.ext E.cf (prApp E.cf R0) E t hk hx) hw hnb hgb hdb
  | _ => exact absurd ha (by simp [isU])
set_option maxHeartbeats 2000000 in
theorem ra3_no (hR : RMono (prApp E.cf R0)) {m : Nat} {wk n g : Int} {vk : Value} {k : PR ρ} {L : Lab} {w : World} {S : St} {jb : Nat} {bj bd bx : Nat} {x : Nat} {dl : Int} {tk : Int} (hg : Good E L S w) (henv : Env L w [(bj, [.pointer (some ⟨jb, 0, none⟩)]), (bd, [.int .i64 dl]), (bx, [.int .u64 x]), (jb, [.pointer (some ⟨E.k, 0, none⟩), .int .i64 wk, .int .i64 n, .int .i64 g, vk])]) (hk : ConSim E.cf (prApp E.cf R0) E t isHe m L w vk (.ret k)) (hw : 0 ≤ wk) (hnb : 0 ≤ n ∧ n ≤ 4294967294) (hgb : 0 ≤ g ∧ g ≤ 4294967294) (hdb : 0 ≤ dl ∧ dl ≤ 1073741823) (hbd : Bd (prApp E.cf R0 k (.he 0 0 3) (S.note (rearmPoint wk n g 0 0 0 3))).1) :
    Calls Tryz.prog 253 #[.int .i64 tk, .bool false, .pointer (some ⟨bj, 0, none⟩), .pointer (some ⟨bd, 0, none⟩), .pointer (some ⟨bx, 0, none⟩)] w (Post E.cf (prApp E.cf R0) E t m L w (prApp E.cf R0 k (.he 0 0 3) (S.note (rearmPoint wk n g 0 0 0 3)))) := by
  have HD := Go.Lib.hid (Did.refl t L w)
  have HG := Go.Lib.hid hg
  have HE := Go.Lib.hid henv
  obtain ⟨ghk, chk, hvhk, hgfhk, _⟩ := id hk
  subst hvhk
  have henhk : ∀ (args : Array Value) (w : World), (callFunc ghk args).run Tryz.prog w = .ok (.enter ghk args) w := hgfhk
  have Hhk := Go.Lib.hid hk
  clear hg henv hk hgfhk
  have hb0 : Below w.heap.size w (w.alloc (.cells #[.int .i64 tk] 3)) := ((Below.refl _ _).alloc (Nat.le_refl _) _)
  have HE0 : Hid (Env L (w.alloc (.cells #[.int .i64 tk] 3)) [(w.heap.size, [.int .i64 tk]), (bj, [.pointer (some ⟨jb, 0, none⟩)]), (bd, [.int .i64 dl]), (bx, [.int .u64 x]), (jb, [.pointer (some ⟨E.k, 0, none⟩), .int .i64 wk, .int .i64 n, .int .i64 g, .func (.func ghk) #[] chk])]) := Go.Lib.hid (Env.alloc_at HE.out (fun b hb => HG.out.new b (by first | exact hb | (simp at hb; omega))) [.int .i64 tk] 3 (b := w.heap.size) (by first | rfl | (simp; done) | (simp; omega)))
  replace HG := Go.Lib.hid (HG.out.below hb0)
  replace HE := Go.Lib.hid (HE0.out)
  replace Hhk := Go.Lib.hid (ConSim.ext E.cf (prApp E.cf R0) E t Hhk.out (below_ext hb0 t L))
  replace HD := Go.Lib.hid (HD.out.trans (below_did hb0 t L))
  clear hb0 HE0
  have q0_0 : (w.alloc (.cells #[.int .i64 tk] 3)).cell? ⟨w.heap.size, 0, none⟩ = some (.int .i64 tk) := HE.out.cell 0 0 rfl rfl
  have q1_0 : (w.alloc (.cells #[.int .i64 tk] 3)).cell? ⟨bj, 0, none⟩ = some (.pointer (some ⟨jb, 0, none⟩)) := HE.out.cell 1 0 rfl rfl
  have q2_0 : (w.alloc (.cells #[.int .i64 tk] 3)).cell? ⟨bd, 0, none⟩ = some (.int .i64 dl) := HE.out.cell 2 0 rfl rfl
  have q3_0 : (w.alloc (.cells #[.int .i64 tk] 3)).cell? ⟨bx, 0, none⟩ = some (.int .u64 x) := HE.out.cell 3 0 rfl rfl
  have q4_0 : (w.alloc (.cells #[.int .i64 tk] 3)).cell? ⟨jb, 0, none⟩ = some (.pointer (some ⟨E.k, 0, none⟩)) := HE.out.cell 4 0 rfl rfl
  have q4_1 : (w.alloc (.cells #[.int .i64 tk] 3)).cell? ⟨jb, 1, none⟩ = some (.int .i64 wk) := HE.out.cell 4 1 rfl rfl
  have q4_2 : (w.alloc (.cells #[.int .i64 tk] 3)).cell? ⟨jb, 2, none⟩ = some (.int .i64 n) := HE.out.cell 4 2 rfl rfl
  have q4_3 : (w.alloc (.cells #[.int .i64 tk] 3)).cell? ⟨jb, 3, none⟩ = some (.int .i64 g) := HE.out.cell 4 3 rfl rfl
  have q4_4 : (w.alloc (.cells #[.int .i64 tk] 3)).cell? ⟨jb, 4, none⟩ = some (.func (.func ghk) #[] chk) := HE.out.cell 4 4 rfl rfl
  go_enter Tryz.func253, Tryz.ntmps253
  go_wp2_with fail
  generalize (w.alloc (.cells #[.int .i64 tk] 3)) = w0 at *
  refine (ra_fail (er := 3) hR HG.out (HE.out.sub (env' := [(jb, [.pointer (some ⟨E.k, 0, none⟩), .int .i64 wk, .int .i64 n, .int .i64 g, .func (.func ghk) #[] chk])]) (by simp)) Hhk.out hw (by decide) hbd).mono ?_
  rintro e w9 ⟨v2, L9, rfl, hd2, hg2, hc2⟩
  go_wp2
  go_ret
  exact ⟨v2, L9, rfl, HD.out.trans hd2, hg2, hc2⟩
set_option maxHeartbeats 2000000 in
theorem ra3_yes (hR : RMono (prApp E.cf R0)) {m : Nat} {wk n g : Int} {vk : Value} {k : PR ρ} {L : Lab} {w : World} {S : St} {jb : Nat} {bj bd bx : Nat} {x : Nat} {dl : Int} {tk : Int} (hg : Good E L S w) (henv : Env L w [(bj, [.pointer (some ⟨jb, 0, none⟩)]), (bd, [.int .i64 dl]), (bx, [.int .u64 x]), (jb, [.pointer (some ⟨E.k, 0, none⟩), .int .i64 wk, .int .i64 n, .int .i64 g, vk])]) (hk : ConSim E.cf (prApp E.cf R0) E t isHe m L w vk (.ret k)) (hw : 0 ≤ wk) (hnb : 0 ≤ n ∧ n ≤ 4294967294) (hgb : 0 ≤ g ∧ g ≤ 4294967294) (hdb : 0 ≤ dl ∧ dl ≤ 1073741823) :
    Calls Tryz.prog 253 #[.int .i64 tk, .bool true, .pointer (some ⟨bj, 0, none⟩), .pointer (some ⟨bd, 0, none⟩), .pointer (some ⟨bx, 0, none⟩)] w (Post E.cf (prApp E.cf R0) E t m L w ((S, some (writeK E.cf tk (g + 1) 0 n dl (.ret (.ra4 wk n g x tk dl k)))))) := by
  have HD := Go.Lib.hid (Did.refl t L w)
  have HG := Go.Lib.hid hg
  have HE := Go.Lib.hid henv
  obtain ⟨ghk, chk, hvhk, hgfhk, _⟩ := id hk
  subst hvhk
  have henhk : ∀ (args : Array Value) (w : World), (callFunc ghk args).run Tryz.prog w = .ok (.enter ghk args) w := hgfhk
  have Hhk := Go.Lib.hid hk
  clear hg henv hk hgfhk
  have hwg : IntKind.i64.wrap (g + 1) = g + 1 := IntWalk.i64_in _ (by omega)
  have hb0 : Below w.heap.size w (w.alloc (.cells #[.int .i64 tk] 3)) := ((Below.refl _ _).alloc (Nat.le_refl _) _)
  have HE0 : Hid (Env L (w.alloc (.cells #[.int .i64 tk] 3)) [(w.heap.size, [.int .i64 tk]), (bj, [.pointer (some ⟨jb, 0, none⟩)]), (bd, [.int .i64 dl]), (bx, [.int .u64 x]), (jb, [.pointer (some ⟨E.k, 0, none⟩), .int .i64 wk, .int .i64 n, .int .i64 g, .func (.func ghk) #[] chk])]) := Go.Lib.hid (Env.alloc_at HE.out (fun b hb => HG.out.new b (by first | exact hb | (simp at hb; omega))) [.int .i64 tk] 3 (b := w.heap.size) (by first | rfl | (simp; done) | (simp; omega)))
  replace HG := Go.Lib.hid (HG.out.below hb0)
  replace HE := Go.Lib.hid (HE0.out)
  replace Hhk := Go.Lib.hid (ConSim.ext E.cf (prApp E.cf R0) E t Hhk.out (below_ext hb0 t L))
  replace HD := Go.Lib.hid (HD.out.trans (below_did hb0 t L))
  clear hb0 HE0
  have q0_0 : (w.alloc (.cells #[.int .i64 tk] 3)).cell? ⟨w.heap.size, 0, none⟩ = some (.int .i64 tk) := HE.out.cell 0 0 rfl rfl
  have q1_0 : (w.alloc (.cells #[.int .i64 tk] 3)).cell? ⟨bj, 0, none⟩ = some (.pointer (some ⟨jb, 0, none⟩)) := HE.out.cell 1 0 rfl rfl
  have q2_0 : (w.alloc (.cells #[.int .i64 tk] 3)).cell? ⟨bd, 0, none⟩ = some (.int .i64 dl) := HE.out.cell 2 0 rfl rfl
  have q3_0 : (w.alloc (.cells #[.int .i64 tk] 3)).cell? ⟨bx, 0, none⟩ = some (.int .u64 x) := HE.out.cell 3 0 rfl rfl
  have q4_0 : (w.alloc (.cells #[.int .i64 tk] 3)).cell? ⟨jb, 0, none⟩ = some (.pointer (some ⟨E.k, 0, none⟩)) := HE.out.cell 4 0 rfl rfl
  have q4_1 : (w.alloc (.cells #[.int .i64 tk] 3)).cell? ⟨jb, 1, none⟩ = some (.int .i64 wk) := HE.out.cell 4 1 rfl rfl
  have q4_2 : (w.alloc (.cells #[.int .i64 tk] 3)).cell? ⟨jb, 2, none⟩ = some (.int .i64 n) := HE.out.cell 4 2 rfl rfl
  have q4_3 : (w.alloc (.cells #[.int .i64 tk] 3)).cell? ⟨jb, 3, none⟩ = some (.int .i64 g) := HE.out.cell 4 3 rfl rfl
  have q4_4 : (w.alloc (.cells #[.int .i64 tk] 3)).cell? ⟨jb, 4, none⟩ = some (.func (.func ghk) #[] chk) := HE.out.cell 4 4 rfl rfl
  go_enter Tryz.func253, Tryz.ntmps253
  go_wp2
  generalize (w.alloc (.cells #[.int .i64 tk] 3)) = w0 at *
  have hb1 : Below w0.heap.size w0 (w0.alloc (.cells #[.int .i64 (g + 1), .int .i64 0, .int .i64 n] 56)) := (Below.refl _ _).alloc (Nat.le_refl _) _
  have hb := hb1.drew
  have HE0 := Go.Lib.hid ((Env.alloc_at HE.out (fun b hb => HG.out.new b hb) [.int .i64 (g + 1), .int .i64 0, .int .i64 n] 56 (b := w0.heap.size) rfl).below ((Below.refl _ _).drew))
  have n0_0 := World.new_ne w0 _ q0_0
  have n1_0 := World.new_ne w0 _ q1_0
  have n2_0 := World.new_ne w0 _ q2_0
  have n3_0 := World.new_ne w0 _ q3_0
  have n4_0 := World.new_ne w0 _ q4_0
  have n4_1 := World.new_ne w0 _ q4_1
  have n4_2 := World.new_ne w0 _ q4_2
  have n4_3 := World.new_ne w0 _ q4_3
  have n4_4 := World.new_ne w0 _ q4_4
  go_region_held3 (fun w' => w'.cell? ⟨w.heap.size, 0, none⟩ = some (.int .i64 tk) ∧ w'.cell? ⟨bj, 0, none⟩ = some (.pointer (some ⟨jb, 0, none⟩)) ∧ w'.cell? ⟨bd, 0, none⟩ = some (.int .i64 dl) ∧ w'.cell? ⟨bx, 0, none⟩ = some (.int .u64 x) ∧ w'.cell? ⟨jb, 0, none⟩ = some (.pointer (some ⟨E.k, 0, none⟩)) ∧ w'.cell? ⟨jb, 1, none⟩ = some (.int .i64 wk) ∧ w'.cell? ⟨jb, 2, none⟩ = some (.int .i64 n) ∧ w'.cell? ⟨jb, 3, none⟩ = some (.int .i64 g) ∧ w'.cell? ⟨jb, 4, none⟩ = some (.func (.func ghk) #[] chk))
    (first | exact ⟨q0_0, q1_0, q2_0, q3_0, q4_0, q4_1, q4_2, q4_3, q4_4⟩ | go_keep)
    (fail)
  go_wp2
  clear n0_0 n1_0 n2_0 n3_0 n4_0 n4_1 n4_2 n4_3 n4_4 q0_0 q1_0 q2_0 q3_0 q4_0 q4_1 q4_2 q4_3 q4_4 hb1
  generalize (w0.alloc (.cells #[.int .i64 (g + 1), .int .i64 0, .int .i64 n] 56)).drew = w1 at *
  replace HG := Go.Lib.hid (HG.out.below hb)
  replace HE := Go.Lib.hid (HE0.out)
  replace Hhk := Go.Lib.hid (ConSim.ext E.cf (prApp E.cf R0) E t Hhk.out (below_ext hb t L))
  replace HD := Go.Lib.hid (HD.out.trans (below_did hb t L))
  clear hb HE0
  have q0_0 : w1.cell? ⟨w0.heap.size, 0, none⟩ = some (.int .i64 (g + 1)) := HE.out.cell 0 0 rfl rfl
  have q0_1 : w1.cell? ⟨w0.heap.size, 1, none⟩ = some (.int .i64 0) := HE.out.cell 0 1 rfl rfl
  have q0_2 : w1.cell? ⟨w0.heap.size, 2, none⟩ = some (.int .i64 n) := HE.out.cell 0 2 rfl rfl
  have q1_0 : w1.cell? ⟨w.heap.size, 0, none⟩ = some (.int .i64 tk) := HE.out.cell 1 0 rfl rfl
  have q2_0 : w1.cell? ⟨bj, 0, none⟩ = some (.pointer (some ⟨jb, 0, none⟩)) := HE.out.cell 2 0 rfl rfl
  have q3_0 : w1.cell? ⟨bd, 0, none⟩ = some (.int .i64 dl) := HE.out.cell 3 0 rfl rfl
  have q4_0 : w1.cell? ⟨bx, 0, none⟩ = some (.int .u64 x) := HE.out.cell 4 0 rfl rfl
  have q5_0 : w1.cell? ⟨jb, 0, none⟩ = some (.pointer (some ⟨E.k, 0, none⟩)) := HE.out.cell 5 0 rfl rfl
  have q5_1 : w1.cell? ⟨jb, 1, none⟩ = some (.int .i64 wk) := HE.out.cell 5 1 rfl rfl
  have q5_2 : w1.cell? ⟨jb, 2, none⟩ = some (.int .i64 n) := HE.out.cell 5 2 rfl rfl
  have q5_3 : w1.cell? ⟨jb, 3, none⟩ = some (.int .i64 g) := HE.out.cell 5 3 rfl rfl
  have q5_4 : w1.cell? ⟨jb, 4, none⟩ = some (.func (.func ghk) #[] chk) := HE.out.cell 5 4 rfl rfl
  have q0_0' : ∀ d os, (Sort.grow (redrawn w1 d) os).cell? ⟨w0.heap.size, 0, none⟩ = some (.int .i64 (g + 1)) := fun d os => cell_regrown q0_0 d os
  have q0_1' : ∀ d os, (Sort.grow (redrawn w1 d) os).cell? ⟨w0.heap.size, 1, none⟩ = some (.int .i64 0) := fun d os => cell_regrown q0_1 d os
  have q0_2' : ∀ d os, (Sort.grow (redrawn w1 d) os).cell? ⟨w0.heap.size, 2, none⟩ = some (.int .i64 n) := fun d os => cell_regrown q0_2 d os
  have q1_0' : ∀ d os, (Sort.grow (redrawn w1 d) os).cell? ⟨w.heap.size, 0, none⟩ = some (.int .i64 tk) := fun d os => cell_regrown q1_0 d os
  have q2_0' : ∀ d os, (Sort.grow (redrawn w1 d) os).cell? ⟨bj, 0, none⟩ = some (.pointer (some ⟨jb, 0, none⟩)) := fun d os => cell_regrown q2_0 d os
  have q3_0' : ∀ d os, (Sort.grow (redrawn w1 d) os).cell? ⟨bd, 0, none⟩ = some (.int .i64 dl) := fun d os => cell_regrown q3_0 d os
  have q4_0' : ∀ d os, (Sort.grow (redrawn w1 d) os).cell? ⟨bx, 0, none⟩ = some (.int .u64 x) := fun d os => cell_regrown q4_0 d os
  have q5_0' : ∀ d os, (Sort.grow (redrawn w1 d) os).cell? ⟨jb, 0, none⟩ = some (.pointer (some ⟨E.k, 0, none⟩)) := fun d os => cell_regrown q5_0 d os
  have q5_1' : ∀ d os, (Sort.grow (redrawn w1 d) os).cell? ⟨jb, 1, none⟩ = some (.int .i64 wk) := fun d os => cell_regrown q5_1 d os
  have q5_2' : ∀ d os, (Sort.grow (redrawn w1 d) os).cell? ⟨jb, 2, none⟩ = some (.int .i64 n) := fun d os => cell_regrown q5_2 d os
  have q5_3' : ∀ d os, (Sort.grow (redrawn w1 d) os).cell? ⟨jb, 3, none⟩ = some (.int .i64 g) := fun d os => cell_regrown q5_3 d os
  have q5_4' : ∀ d os, (Sort.grow (redrawn w1 d) os).cell? ⟨jb, 4, none⟩ = some (.func (.func ghk) #[] chk) := fun d os => cell_regrown q5_4 d os
  refine wp_region_below_tail 8 (by kernel_rfl) (by kernel_rfl) ?_
  simp only [List.take_succ_cons, List.take_zero, List.drop_succ_cons, List.drop_zero]
  repeat (go_big_quiet_step (first
    | fail))
  refine wpQuiet_nil ?_
  intro w2 hw'
  obtain ⟨p, rfl⟩ := hw'
  have hb := below_regrown w1 p.d p.os
  clear q0_0' q0_1' q0_2' q1_0' q2_0' q3_0' q4_0' q5_0' q5_1' q5_2' q5_3' q5_4' q0_0 q0_1 q0_2 q1_0 q2_0 q3_0 q4_0 q5_0 q5_1 q5_2 q5_3 q5_4
  generalize Sort.grow (redrawn w1 p.d) p.os = w2 at *
  replace HG := Go.Lib.hid (HG.out.below hb)
  replace HE := Go.Lib.hid (HE.out.ext (below_ext hb t L))
  replace Hhk := Go.Lib.hid (ConSim.ext E.cf (prApp E.cf R0) E t Hhk.out (below_ext hb t L))
  replace HD := Go.Lib.hid (HD.out.trans (below_did hb t L))
  clear hb
  have q0_0 : w2.cell? ⟨w0.heap.size, 0, none⟩ = some (.int .i64 (g + 1)) := HE.out.cell 0 0 rfl rfl
  have q0_1 : w2.cell? ⟨w0.heap.size, 1, none⟩ = some (.int .i64 0) := HE.out.cell 0 1 rfl rfl
  have q0_2 : w2.cell? ⟨w0.heap.size, 2, none⟩ = some (.int .i64 n) := HE.out.cell 0 2 rfl rfl
  have q1_0 : w2.cell? ⟨w.heap.size, 0, none⟩ = some (.int .i64 tk) := HE.out.cell 1 0 rfl rfl
  have q2_0 : w2.cell? ⟨bj, 0, none⟩ = some (.pointer (some ⟨jb, 0, none⟩)) := HE.out.cell 2 0 rfl rfl
  have q3_0 : w2.cell? ⟨bd, 0, none⟩ = some (.int .i64 dl) := HE.out.cell 3 0 rfl rfl
  have q4_0 : w2.cell? ⟨bx, 0, none⟩ = some (.int .u64 x) := HE.out.cell 4 0 rfl rfl
  have q5_0 : w2.cell? ⟨jb, 0, none⟩ = some (.pointer (some ⟨E.k, 0, none⟩)) := HE.out.cell 5 0 rfl rfl
  have q5_1 : w2.cell? ⟨jb, 1, none⟩ = some (.int .i64 wk) := HE.out.cell 5 1 rfl rfl
  have q5_2 : w2.cell? ⟨jb, 2, none⟩ = some (.int .i64 n) := HE.out.cell 5 2 rfl rfl
  have q5_3 : w2.cell? ⟨jb, 3, none⟩ = some (.int .i64 g) := HE.out.cell 5 3 rfl rfl
  have q5_4 : w2.cell? ⟨jb, 4, none⟩ = some (.func (.func ghk) #[] chk) := HE.out.cell 5 4 rfl rfl
  have HT := Go.Lib.hid (write_at hR (tt := tk) (g := g + 1) (v := 0) (nd := n) (d := dl) HG.out (by omega) (by omega) (by omega) (ra4_con (tk := tk) (bt := w.heap.size) (k := k) hR (HE.out.sub (env' := [(bj, [.pointer (some ⟨jb, 0, none⟩)]), (bx, [.int .u64 x]), (w.heap.size, [.int .i64 tk]), (bd, [.int .i64 dl]), (jb, [.pointer (some ⟨E.k, 0, none⟩), .int .i64 wk, .int .i64 n, .int .i64 g, .func (.func ghk) #[] chk])]) (by simp)) Hhk.out hw hnb hgb hdb))
  go_wp2_with fail
  refine (HT.out).mono ?_
  rintro e w9 ⟨v2, L9, rfl, hd2, hg2, hc2⟩
  go_wp2
  go_ret
  exact ⟨v2, L9, rfl, HD.out.trans hd2, hg2, hc2⟩
theorem ra3_con (hR : RMono (prApp E.cf R0)) {m : Nat} {wk n g : Int} {vk : Value} {k : PR ρ} {L : Lab} {w : World} {jb : Nat} {bj bd bx : Nat} {x : Nat} {dl : Int} (henv : Env L w [(bj, [.pointer (some ⟨jb, 0, none⟩)]), (bd, [.int .i64 dl]), (bx, [.int .u64 x]), (jb, [.pointer (some ⟨E.k, 0, none⟩), .int .i64 wk, .int .i64 n, .int .i64 g, vk])]) (hk : ConSim E.cf (prApp E.cf R0) E t isHe m L w vk (.ret k)) (hw : 0 ≤ wk) (hnb : 0 ≤ n ∧ n ≤ 4294967294) (hgb : 0 ≤ g ∧ g ≤ 4294967294) (hdb : 0 ≤ dl ∧ dl ≤ 1073741823) :
    ConSim E.cf (prApp E.cf R0) E t isPop m L w (.func (.func 253) #[] #[.pointer (some ⟨bj, 0, none⟩), .pointer (some ⟨bd, 0, none⟩), .pointer (some ⟨bx, 0, none⟩)]) (.ret (.ra3 wk n g x dl k)) := by
  refine ⟨_, _, rfl, enters_of Tryz.func253 (by kernel_rfl) rfl, ?_⟩
  intro a L' w' S ha hx hg hbd
  cases a with
  | pop tk ok =>
    show Calls _ _ #[_, _, _, _, _] _ _
    cases ok with
    | true => exact ra3_yes hR hg (henv.ext hx) (ConSim.ext E.cf (prApp E.cf R0) E t hk hx) hw hnb hgb hdb
    | false => exact ra3_no hR hg (henv.ext hx) (ConSim.ext E.cf (prApp E.cf R0) E t hk hx) hw hnb hgb hdb hbd
  | _ => exact absurd ha (by simp [isPop])
set_option maxHeartbeats 2000000 in
theorem ra_ticket (hR : RMono (prApp E.cf R0)) {m : Nat} {wk n g : Int} {vk : Value} {k : PR ρ} {L : Lab} {w : World} {S : St} {jb : Nat} {x : Nat} {dl : Int} (hg : Good E L S w) (henv : Env L w [(jb, [.pointer (some ⟨E.k, 0, none⟩), .int .i64 wk, .int .i64 n, .int .i64 g, vk])]) (hk : ConSim E.cf (prApp E.cf R0) E t isHe m L w vk (.ret k)) (hw : 0 ≤ wk) (hnb : 0 ≤ n ∧ n ≤ 4294967294) (hgb : 0 ≤ g ∧ g ≤ 4294967294) (hdb : 0 ≤ dl ∧ dl ≤ 1073741823) :
    Calls Tryz.prog 225 #[.pointer (some ⟨jb, 0, none⟩), .int .u64 x, .int .i64 dl] w (Post E.cf (prApp E.cf R0) E t m L w ((S, some (popK .tickets (.ret (.ra3 wk n g x dl k)))))) := by
  have HD := Go.Lib.hid (Did.refl t L w)
  have HG := Go.Lib.hid hg
  have HE := Go.Lib.hid henv
  obtain ⟨ghk, chk, hvhk, hgfhk, _⟩ := id hk
  subst hvhk
  have henhk : ∀ (args : Array Value) (w : World), (callFunc ghk args).run Tryz.prog w = .ok (.enter ghk args) w := hgfhk
  have Hhk := Go.Lib.hid hk
  clear hg henv hk hgfhk
  have hb0 : Below w.heap.size w (((w.alloc (.cells #[.pointer (some ⟨jb, 0, none⟩)] 197)).alloc (.cells #[.int .u64 x] 92)).alloc (.cells #[.int .i64 dl] 3)) := ((((Below.refl _ _).alloc (Nat.le_refl _) _).alloc (by first | (simp; done) | (simp; omega)) _).alloc (by first | (simp; done) | (simp; omega)) _)
  have HE0 : Hid (Env L (((w.alloc (.cells #[.pointer (some ⟨jb, 0, none⟩)] 197)).alloc (.cells #[.int .u64 x] 92)).alloc (.cells #[.int .i64 dl] 3)) [(w.heap.size + 1 + 1, [.int .i64 dl]), (w.heap.size + 1, [.int .u64 x]), (w.heap.size, [.pointer (some ⟨jb, 0, none⟩)]), (jb, [.pointer (some ⟨E.k, 0, none⟩), .int .i64 wk, .int .i64 n, .int .i64 g, .func (.func ghk) #[] chk])]) := Go.Lib.hid (Env.alloc_at (Env.alloc_at (Env.alloc_at HE.out (fun b hb => HG.out.new b (by first | exact hb | (simp at hb; omega))) [.pointer (some ⟨jb, 0, none⟩)] 197 (b := w.heap.size) (by first | rfl | (simp; done) | (simp; omega))) (fun b hb => HG.out.new b (by first | exact hb | (simp at hb; omega))) [.int .u64 x] 92 (b := w.heap.size + 1) (by first | rfl | (simp; done) | (simp; omega))) (fun b hb => HG.out.new b (by first | exact hb | (simp at hb; omega))) [.int .i64 dl] 3 (b := w.heap.size + 1 + 1) (by first | rfl | (simp; done) | (simp; omega)))
  replace HG := Go.Lib.hid (HG.out.below hb0)
  replace HE := Go.Lib.hid (HE0.out)
  replace Hhk := Go.Lib.hid (ConSim.ext E.cf (prApp E.cf R0) E t Hhk.out (below_ext hb0 t L))
  replace HD := Go.Lib.hid (HD.out.trans (below_did hb0 t L))
  clear hb0 HE0
  have q0_0 : (((w.alloc (.cells #[.pointer (some ⟨jb, 0, none⟩)] 197)).alloc (.cells #[.int .u64 x] 92)).alloc (.cells #[.int .i64 dl] 3)).cell? ⟨w.heap.size + 1 + 1, 0, none⟩ = some (.int .i64 dl) := HE.out.cell 0 0 rfl rfl
  have q1_0 : (((w.alloc (.cells #[.pointer (some ⟨jb, 0, none⟩)] 197)).alloc (.cells #[.int .u64 x] 92)).alloc (.cells #[.int .i64 dl] 3)).cell? ⟨w.heap.size + 1, 0, none⟩ = some (.int .u64 x) := HE.out.cell 1 0 rfl rfl
  have q2_0 : (((w.alloc (.cells #[.pointer (some ⟨jb, 0, none⟩)] 197)).alloc (.cells #[.int .u64 x] 92)).alloc (.cells #[.int .i64 dl] 3)).cell? ⟨w.heap.size, 0, none⟩ = some (.pointer (some ⟨jb, 0, none⟩)) := HE.out.cell 2 0 rfl rfl
  have q3_0 : (((w.alloc (.cells #[.pointer (some ⟨jb, 0, none⟩)] 197)).alloc (.cells #[.int .u64 x] 92)).alloc (.cells #[.int .i64 dl] 3)).cell? ⟨jb, 0, none⟩ = some (.pointer (some ⟨E.k, 0, none⟩)) := HE.out.cell 3 0 rfl rfl
  have q3_1 : (((w.alloc (.cells #[.pointer (some ⟨jb, 0, none⟩)] 197)).alloc (.cells #[.int .u64 x] 92)).alloc (.cells #[.int .i64 dl] 3)).cell? ⟨jb, 1, none⟩ = some (.int .i64 wk) := HE.out.cell 3 1 rfl rfl
  have q3_2 : (((w.alloc (.cells #[.pointer (some ⟨jb, 0, none⟩)] 197)).alloc (.cells #[.int .u64 x] 92)).alloc (.cells #[.int .i64 dl] 3)).cell? ⟨jb, 2, none⟩ = some (.int .i64 n) := HE.out.cell 3 2 rfl rfl
  have q3_3 : (((w.alloc (.cells #[.pointer (some ⟨jb, 0, none⟩)] 197)).alloc (.cells #[.int .u64 x] 92)).alloc (.cells #[.int .i64 dl] 3)).cell? ⟨jb, 3, none⟩ = some (.int .i64 g) := HE.out.cell 3 3 rfl rfl
  have q3_4 : (((w.alloc (.cells #[.pointer (some ⟨jb, 0, none⟩)] 197)).alloc (.cells #[.int .u64 x] 92)).alloc (.cells #[.int .i64 dl] 3)).cell? ⟨jb, 4, none⟩ = some (.func (.func ghk) #[] chk) := HE.out.cell 3 4 rfl rfl
  go_enter Tryz.func225, Tryz.ntmps225
  go_wp2_with fail
  generalize (((w.alloc (.cells #[.pointer (some ⟨jb, 0, none⟩)] 197)).alloc (.cells #[.int .u64 x] 92)).alloc (.cells #[.int .i64 dl] 3)) = w0 at *
  refine (core_Tickets HG.out).mono ?_
  rintro e w1 ⟨rfl, hb⟩
  clear q0_0 q1_0 q2_0 q3_0 q3_1 q3_2 q3_3 q3_4
  replace HG := Go.Lib.hid (HG.out.below hb)
  replace HE := Go.Lib.hid (HE.out.ext (below_ext hb t L))
  replace Hhk := Go.Lib.hid (ConSim.ext E.cf (prApp E.cf R0) E t Hhk.out (below_ext hb t L))
  replace HD := Go.Lib.hid (HD.out.trans (below_did hb t L))
  clear hb
  have q0_0 : w1.cell? ⟨w.heap.size + 1 + 1, 0, none⟩ = some (.int .i64 dl) := HE.out.cell 0 0 rfl rfl
  have q1_0 : w1.cell? ⟨w.heap.size + 1, 0, none⟩ = some (.int .u64 x) := HE.out.cell 1 0 rfl rfl
  have q2_0 : w1.cell? ⟨w.heap.size, 0, none⟩ = some (.pointer (some ⟨jb, 0, none⟩)) := HE.out.cell 2 0 rfl rfl
  have q3_0 : w1.cell? ⟨jb, 0, none⟩ = some (.pointer (some ⟨E.k, 0, none⟩)) := HE.out.cell 3 0 rfl rfl
  have q3_1 : w1.cell? ⟨jb, 1, none⟩ = some (.int .i64 wk) := HE.out.cell 3 1 rfl rfl
  have q3_2 : w1.cell? ⟨jb, 2, none⟩ = some (.int .i64 n) := HE.out.cell 3 2 rfl rfl
  have q3_3 : w1.cell? ⟨jb, 3, none⟩ = some (.int .i64 g) := HE.out.cell 3 3 rfl rfl
  have q3_4 : w1.cell? ⟨jb, 4, none⟩ = some (.func (.func ghk) #[] chk) := HE.out.cell 3 4 rfl rfl
  have HT := Go.Lib.hid (pop_tickets hR HG.out (ra3_con (x := x) (k := k) hR (HE.out.sub (env' := [(w.heap.size, [.pointer (some ⟨jb, 0, none⟩)]), (w.heap.size + 1 + 1, [.int .i64 dl]), (w.heap.size + 1, [.int .u64 x]), (jb, [.pointer (some ⟨E.k, 0, none⟩), .int .i64 wk, .int .i64 n, .int .i64 g, .func (.func ghk) #[] chk])]) (by simp)) Hhk.out hw hnb hgb hdb))
  go_wp2_with fail
  refine (HT.out).mono ?_
  rintro e w9 ⟨v2, L9, rfl, hd2, hg2, hc2⟩
  go_wp2
  go_ret
  exact ⟨v2, L9, rfl, HD.out.trans hd2, hg2, hc2⟩
set_option maxHeartbeats 2000000 in
theorem ra2_no (hR : RMono (prApp E.cf R0)) {m : Nat} {wk n g : Int} {vk : Value} {k : PR ρ} {L : Lab} {w : World} {S : St} {jb : Nat} {bj bd : Nat} {dl : Int} {x : Nat} (hg : Good E L S w) (henv : Env L w [(bj, [.pointer (some ⟨jb, 0, none⟩)]), (bd, [.int .i64 dl]), (jb, [.pointer (some ⟨E.k, 0, none⟩), .int .i64 wk, .int .i64 n, .int .i64 g, vk])]) (hk : ConSim E.cf (prApp E.cf R0) E t isHe m L w vk (.ret k)) (hw : 0 ≤ wk) (hnb : 0 ≤ n ∧ n ≤ 4294967294) (hdb : 0 ≤ dl ∧ dl ≤ 1073741823) (hx64 : x < 18446744073709551616) (ha : armedW x g = false) (hbd : Bd (prApp E.cf R0 k (.he 0 0 4) (S.note (rearmPoint wk n g 0 0 0 4))).1) :
    Calls Tryz.prog 224 #[.int .u64 x, .pointer (some ⟨bj, 0, none⟩), .pointer (some ⟨bd, 0, none⟩)] w (Post E.cf (prApp E.cf R0) E t m L w (prApp E.cf R0 k (.he 0 0 4) (S.note (rearmPoint wk n g 0 0 0 4)))) := by
  have HD := Go.Lib.hid (Did.refl t L w)
  have HG := Go.Lib.hid hg
  have HE := Go.Lib.hid henv
  obtain ⟨ghk, chk, hvhk, hgfhk, _⟩ := id hk
  subst hvhk
  have henhk : ∀ (args : Array Value) (w : World), (callFunc ghk args).run Tryz.prog w = .ok (.enter ghk args) w := hgfhk
  have Hhk := Go.Lib.hid hk
  clear hg henv hk hgfhk
  have HAR := Go.Lib.hid (fun w => chg_armed x n g w hx64)
  rw [ha] at HAR
  clear ha
  have q0_0 : w.cell? ⟨bj, 0, none⟩ = some (.pointer (some ⟨jb, 0, none⟩)) := HE.out.cell 0 0 rfl rfl
  have q1_0 : w.cell? ⟨bd, 0, none⟩ = some (.int .i64 dl) := HE.out.cell 1 0 rfl rfl
  have q2_0 : w.cell? ⟨jb, 0, none⟩ = some (.pointer (some ⟨E.k, 0, none⟩)) := HE.out.cell 2 0 rfl rfl
  have q2_1 : w.cell? ⟨jb, 1, none⟩ = some (.int .i64 wk) := HE.out.cell 2 1 rfl rfl
  have q2_2 : w.cell? ⟨jb, 2, none⟩ = some (.int .i64 n) := HE.out.cell 2 2 rfl rfl
  have q2_3 : w.cell? ⟨jb, 3, none⟩ = some (.int .i64 g) := HE.out.cell 2 3 rfl rfl
  have q2_4 : w.cell? ⟨jb, 4, none⟩ = some (.func (.func ghk) #[] chk) := HE.out.cell 2 4 rfl rfl
  go_enter Tryz.func224, Tryz.ntmps224
  go_wp2_with fail
  refine (HAR.out _).mono ?_
  rintro e w1 ⟨rfl, hb⟩
  clear q0_0 q1_0 q2_0 q2_1 q2_2 q2_3 q2_4
  replace HG := Go.Lib.hid (HG.out.below hb)
  replace HE := Go.Lib.hid (HE.out.ext (below_ext hb t L))
  replace Hhk := Go.Lib.hid (ConSim.ext E.cf (prApp E.cf R0) E t Hhk.out (below_ext hb t L))
  replace HD := Go.Lib.hid (HD.out.trans (below_did hb t L))
  clear hb
  have q0_0 : w1.cell? ⟨bj, 0, none⟩ = some (.pointer (some ⟨jb, 0, none⟩)) := HE.out.cell 0 0 rfl rfl
  have q1_0 : w1.cell? ⟨bd, 0, none⟩ = some (.int .i64 dl) := HE.out.cell 1 0 rfl rfl
  have q2_0 : w1.cell? ⟨jb, 0, none⟩ = some (.pointer (some ⟨E.k, 0, none⟩)) := HE.out.cell 2 0 rfl rfl
  have q2_1 : w1.cell? ⟨jb, 1, none⟩ = some (.int .i64 wk) := HE.out.cell 2 1 rfl rfl
  have q2_2 : w1.cell? ⟨jb, 2, none⟩ = some (.int .i64 n) := HE.out.cell 2 2 rfl rfl
  have q2_3 : w1.cell? ⟨jb, 3, none⟩ = some (.int .i64 g) := HE.out.cell 2 3 rfl rfl
  have q2_4 : w1.cell? ⟨jb, 4, none⟩ = some (.func (.func ghk) #[] chk) := HE.out.cell 2 4 rfl rfl
  go_wp2_with fail
  refine (ra_fail (er := 4) hR HG.out (HE.out.sub (env' := [(jb, [.pointer (some ⟨E.k, 0, none⟩), .int .i64 wk, .int .i64 n, .int .i64 g, .func (.func ghk) #[] chk])]) (by simp)) Hhk.out hw (by decide) hbd).mono ?_
  rintro e w9 ⟨v2, L9, rfl, hd2, hg2, hc2⟩
  go_wp2
  go_ret
  exact ⟨v2, L9, rfl, HD.out.trans hd2, hg2, hc2⟩
set_option maxHeartbeats 2000000 in
theorem ra2_gone (hR : RMono (prApp E.cf R0)) {m : Nat} {wk n g : Int} {vk : Value} {k : PR ρ} {L : Lab} {w : World} {S : St} {jb : Nat} {bj bd : Nat} {dl : Int} {x : Nat} (hg : Good E L S w) (henv : Env L w [(bj, [.pointer (some ⟨jb, 0, none⟩)]), (bd, [.int .i64 dl]), (jb, [.pointer (some ⟨E.k, 0, none⟩), .int .i64 wk, .int .i64 n, .int .i64 g, vk])]) (hk : ConSim E.cf (prApp E.cf R0) E t isHe m L w vk (.ret k)) (hw : 0 ≤ wk) (hnb : 0 ≤ n ∧ n ≤ 4294967294) (hdb : 0 ≤ dl ∧ dl ≤ 1073741823) (hx64 : x < 18446744073709551616) (ha : armedW x g = true) (hge : g = 4294967295) (hbd : Bd (prApp E.cf R0 k (.he 0 0 5) (S.note (rearmPoint wk n g 0 0 0 5))).1) :
    Calls Tryz.prog 224 #[.int .u64 x, .pointer (some ⟨bj, 0, none⟩), .pointer (some ⟨bd, 0, none⟩)] w (Post E.cf (prApp E.cf R0) E t m L w (prApp E.cf R0 k (.he 0 0 5) (S.note (rearmPoint wk n g 0 0 0 5)))) := by
  have HD := Go.Lib.hid (Did.refl t L w)
  have HG := Go.Lib.hid hg
  have HE := Go.Lib.hid henv
  obtain ⟨ghk, chk, hvhk, hgfhk, _⟩ := id hk
  subst hvhk
  have henhk : ∀ (args : Array Value) (w : World), (callFunc ghk args).run Tryz.prog w = .ok (.enter ghk args) w := hgfhk
  have Hhk := Go.Lib.hid hk
  clear hg henv hk hgfhk
  have HAR := Go.Lib.hid (fun w => chg_armed x n g w hx64)
  rw [ha] at HAR
  clear ha
  have hd1 : (g == 4294967295) = true := by simpa using hge
  have hd2 : decide (g = 4294967295) = true := decide_eq_true hge
  have hd3 : g ≤ 4294967295 := by omega
  clear hge
  have q0_0 : w.cell? ⟨bj, 0, none⟩ = some (.pointer (some ⟨jb, 0, none⟩)) := HE.out.cell 0 0 rfl rfl
  have q1_0 : w.cell? ⟨bd, 0, none⟩ = some (.int .i64 dl) := HE.out.cell 1 0 rfl rfl
  have q2_0 : w.cell? ⟨jb, 0, none⟩ = some (.pointer (some ⟨E.k, 0, none⟩)) := HE.out.cell 2 0 rfl rfl
  have q2_1 : w.cell? ⟨jb, 1, none⟩ = some (.int .i64 wk) := HE.out.cell 2 1 rfl rfl
  have q2_2 : w.cell? ⟨jb, 2, none⟩ = some (.int .i64 n) := HE.out.cell 2 2 rfl rfl
  have q2_3 : w.cell? ⟨jb, 3, none⟩ = some (.int .i64 g) := HE.out.cell 2 3 rfl rfl
  have q2_4 : w.cell? ⟨jb, 4, none⟩ = some (.func (.func ghk) #[] chk) := HE.out.cell 2 4 rfl rfl
  go_enter Tryz.func224, Tryz.ntmps224
  go_wp2_with fail
  refine (HAR.out _).mono ?_
  rintro e w1 ⟨rfl, hb⟩
  clear q0_0 q1_0 q2_0 q2_1 q2_2 q2_3 q2_4
  replace HG := Go.Lib.hid (HG.out.below hb)
  replace HE := Go.Lib.hid (HE.out.ext (below_ext hb t L))
  replace Hhk := Go.Lib.hid (ConSim.ext E.cf (prApp E.cf R0) E t Hhk.out (below_ext hb t L))
  replace HD := Go.Lib.hid (HD.out.trans (below_did hb t L))
  clear hb
  have q0_0 : w1.cell? ⟨bj, 0, none⟩ = some (.pointer (some ⟨jb, 0, none⟩)) := HE.out.cell 0 0 rfl rfl
  have q1_0 : w1.cell? ⟨bd, 0, none⟩ = some (.int .i64 dl) := HE.out.cell 1 0 rfl rfl
  have q2_0 : w1.cell? ⟨jb, 0, none⟩ = some (.pointer (some ⟨E.k, 0, none⟩)) := HE.out.cell 2 0 rfl rfl
  have q2_1 : w1.cell? ⟨jb, 1, none⟩ = some (.int .i64 wk) := HE.out.cell 2 1 rfl rfl
  have q2_2 : w1.cell? ⟨jb, 2, none⟩ = some (.int .i64 n) := HE.out.cell 2 2 rfl rfl
  have q2_3 : w1.cell? ⟨jb, 3, none⟩ = some (.int .i64 g) := HE.out.cell 2 3 rfl rfl
  have q2_4 : w1.cell? ⟨jb, 4, none⟩ = some (.func (.func ghk) #[] chk) := HE.out.cell 2 4 rfl rfl
  go_wp2_with fail
  refine (ra_fail (er := 5) hR HG.out (HE.out.sub (env' := [(jb, [.pointer (some ⟨E.k, 0, none⟩), .int .i64 wk, .int .i64 n, .int .i64 g, .func (.func ghk) #[] chk])]) (by simp)) Hhk.out hw (by decide) hbd).mono ?_
  rintro e w9 ⟨v2, L9, rfl, hd2, hg2, hc2⟩
  go_wp2
  go_ret
  exact ⟨v2, L9, rfl, HD.out.trans hd2, hg2, hc2⟩
set_option maxHeartbeats 2000000 in
theorem ra2_yes (hR : RMono (prApp E.cf R0)) {m : Nat} {wk n g : Int} {vk : Value} {k : PR ρ} {L : Lab} {w : World} {S : St} {jb : Nat} {bj bd : Nat} {dl : Int} {x : Nat} (hg : Good E L S w) (henv : Env L w [(bj, [.pointer (some ⟨jb, 0, none⟩)]), (bd, [.int .i64 dl]), (jb, [.pointer (some ⟨E.k, 0, none⟩), .int .i64 wk, .int .i64 n, .int .i64 g, vk])]) (hk : ConSim E.cf (prApp E.cf R0) E t isHe m L w vk (.ret k)) (hw : 0 ≤ wk) (hnb : 0 ≤ n ∧ n ≤ 4294967294) (hdb : 0 ≤ dl ∧ dl ≤ 1073741823) (hx64 : x < 18446744073709551616) (ha : armedW x g = true) (hge : ¬ g = 4294967295) :
    Calls Tryz.prog 224 #[.int .u64 x, .pointer (some ⟨bj, 0, none⟩), .pointer (some ⟨bd, 0, none⟩)] w (Post E.cf (prApp E.cf R0) E t m L w ((S, some (popK .tickets (.ret (.ra3 wk n g x dl k)))))) := by
  have hgb : 0 ≤ g ∧ g ≤ 4294967294 := by have h1 : part x 32 32 < 4294967296 := Nat.mod_lt _ (by decide); have h2 : ((part x 32 32 : Nat) : Int) = g := (of_decide_eq_true (show decide (part x 0 2 = 1 ∧ ((part x 32 32 : Nat) : Int) = g) = true from ha)).2; omega
  have HD := Go.Lib.hid (Did.refl t L w)
  have HG := Go.Lib.hid hg
  have HE := Go.Lib.hid henv
  obtain ⟨ghk, chk, hvhk, hgfhk, _⟩ := id hk
  subst hvhk
  have henhk : ∀ (args : Array Value) (w : World), (callFunc ghk args).run Tryz.prog w = .ok (.enter ghk args) w := hgfhk
  have Hhk := Go.Lib.hid hk
  clear hg henv hk hgfhk
  have HAR := Go.Lib.hid (fun w => chg_armed x n g w hx64)
  rw [ha] at HAR
  clear ha
  have hd1 : (g == 4294967295) = false := by simpa using hge
  have hd2 : decide (g = 4294967295) = false := decide_eq_false hge
  have q0_0 : w.cell? ⟨bj, 0, none⟩ = some (.pointer (some ⟨jb, 0, none⟩)) := HE.out.cell 0 0 rfl rfl
  have q1_0 : w.cell? ⟨bd, 0, none⟩ = some (.int .i64 dl) := HE.out.cell 1 0 rfl rfl
  have q2_0 : w.cell? ⟨jb, 0, none⟩ = some (.pointer (some ⟨E.k, 0, none⟩)) := HE.out.cell 2 0 rfl rfl
  have q2_1 : w.cell? ⟨jb, 1, none⟩ = some (.int .i64 wk) := HE.out.cell 2 1 rfl rfl
  have q2_2 : w.cell? ⟨jb, 2, none⟩ = some (.int .i64 n) := HE.out.cell 2 2 rfl rfl
  have q2_3 : w.cell? ⟨jb, 3, none⟩ = some (.int .i64 g) := HE.out.cell 2 3 rfl rfl
  have q2_4 : w.cell? ⟨jb, 4, none⟩ = some (.func (.func ghk) #[] chk) := HE.out.cell 2 4 rfl rfl
  go_enter Tryz.func224, Tryz.ntmps224
  go_wp2_with fail
  refine (HAR.out _).mono ?_
  rintro e w1 ⟨rfl, hb⟩
  clear q0_0 q1_0 q2_0 q2_1 q2_2 q2_3 q2_4
  replace HG := Go.Lib.hid (HG.out.below hb)
  replace HE := Go.Lib.hid (HE.out.ext (below_ext hb t L))
  replace Hhk := Go.Lib.hid (ConSim.ext E.cf (prApp E.cf R0) E t Hhk.out (below_ext hb t L))
  replace HD := Go.Lib.hid (HD.out.trans (below_did hb t L))
  clear hb
  have q0_0 : w1.cell? ⟨bj, 0, none⟩ = some (.pointer (some ⟨jb, 0, none⟩)) := HE.out.cell 0 0 rfl rfl
  have q1_0 : w1.cell? ⟨bd, 0, none⟩ = some (.int .i64 dl) := HE.out.cell 1 0 rfl rfl
  have q2_0 : w1.cell? ⟨jb, 0, none⟩ = some (.pointer (some ⟨E.k, 0, none⟩)) := HE.out.cell 2 0 rfl rfl
  have q2_1 : w1.cell? ⟨jb, 1, none⟩ = some (.int .i64 wk) := HE.out.cell 2 1 rfl rfl
  have q2_2 : w1.cell? ⟨jb, 2, none⟩ = some (.int .i64 n) := HE.out.cell 2 2 rfl rfl
  have q2_3 : w1.cell? ⟨jb, 3, none⟩ = some (.int .i64 g) := HE.out.cell 2 3 rfl rfl
  have q2_4 : w1.cell? ⟨jb, 4, none⟩ = some (.func (.func ghk) #[] chk) := HE.out.cell 2 4 rfl rfl
  go_wp2_with fail
  refine (ra_ticket (x := x) (dl := dl) hR HG.out (HE.out.sub (env' := [(jb, [.pointer (some ⟨E.k, 0, none⟩), .int .i64 wk, .int .i64 n, .int .i64 g, .func (.func ghk) #[] chk])]) (by simp)) Hhk.out hw hnb hgb hdb).mono ?_
  rintro e w9 ⟨v2, L9, rfl, hd2, hg2, hc2⟩
  go_wp2
  go_ret
  exact ⟨v2, L9, rfl, HD.out.trans hd2, hg2, hc2⟩
theorem ra2_con (hR : RMono (prApp E.cf R0)) {m : Nat} {wk n g : Int} {vk : Value} {k : PR ρ} {L : Lab} {w : World} {jb : Nat} {bj bd : Nat} {dl : Int} (henv : Env L w [(bj, [.pointer (some ⟨jb, 0, none⟩)]), (bd, [.int .i64 dl]), (jb, [.pointer (some ⟨E.k, 0, none⟩), .int .i64 wk, .int .i64 n, .int .i64 g, vk])]) (hk : ConSim E.cf (prApp E.cf R0) E t isHe m L w vk (.ret k)) (hw : 0 ≤ wk) (hnb : 0 ≤ n ∧ n ≤ 4294967294) (hdb : 0 ≤ dl ∧ dl ≤ 1073741823) :
    ConSim E.cf (prApp E.cf R0) E t isW m L w (.func (.func 224) #[] #[.pointer (some ⟨bj, 0, none⟩), .pointer (some ⟨bd, 0, none⟩)]) (.ret (.ra2 wk n g dl k)) := by
  refine ⟨_, _, rfl, enters_of Tryz.func224 (by kernel_rfl) rfl, ?_⟩
  intro a L' w' S ha hx hg hbd
  cases a with
  | w x =>
    show Calls _ _ #[_, _, _] _ _
    have hbd' : Bd (if armedW x g then (if g = 4294967295 then prApp E.cf R0 k (.he 0 0 5) (S.note (rearmPoint wk n g 0 0 0 5)) else (S, some (popK .tickets (.ret (.ra3 wk n g x dl k))))) else prApp E.cf R0 k (.he 0 0 4) (S.note (rearmPoint wk n g 0 0 0 4))).1 := by have h := hbd; rw [app_ret, prApp] at h; exact h
    rw [app_ret, prApp]
    cases h : armedW x g with
    | true =>
      rw [h, if_pos rfl] at hbd'
      rw [if_pos rfl]
      by_cases hge : g = 4294967295
      · rw [if_pos hge] at hbd' ⊢; exact ra2_gone hR hg (henv.ext hx) (ConSim.ext E.cf (prApp E.cf R0) E t hk hx) hw hnb hdb ha h hge hbd'
      · rw [if_neg hge]; exact ra2_yes hR hg (henv.ext hx) (ConSim.ext E.cf (prApp E.cf R0) E t hk hx) hw hnb hdb ha h hge
    | false => rw [h, if_neg (by decide)] at hbd'; rw [if_neg (by decide)]; exact ra2_no hR hg (henv.ext hx) (ConSim.ext E.cf (prApp E.cf R0) E t hk hx) hw hnb hdb ha h hbd'
  | _ => exact absurd ha (by simp [isW])
set_option maxHeartbeats 2000000 in
theorem ra_look (hR : RMono (prApp E.cf R0)) {m : Nat} {wk n g : Int} {vk : Value} {k : PR ρ} {L : Lab} {w : World} {S : St} {jb : Nat} {dl : Int} (hg : Good E L S w) (henv : Env L w [(jb, [.pointer (some ⟨E.k, 0, none⟩), .int .i64 wk, .int .i64 n, .int .i64 g, vk])]) (hk : ConSim E.cf (prApp E.cf R0) E t isHe m L w vk (.ret k)) (hw : 0 ≤ wk) (hnb : 0 ≤ n ∧ n ≤ 4294967294) (hdb : 0 ≤ dl ∧ dl ≤ 1073741823) :
    Calls Tryz.prog 170 #[.pointer (some ⟨jb, 0, none⟩), .int .i64 dl] w (Post E.cf (prApp E.cf R0) E t m L w ((S, some (.load (E.cf.state n) (.ret (.ra2 wk n g dl k)))))) := by
  have HD := Go.Lib.hid (Did.refl t L w)
  have HG := Go.Lib.hid hg
  have HE := Go.Lib.hid henv
  obtain ⟨ghk, chk, hvhk, hgfhk, _⟩ := id hk
  subst hvhk
  have henhk : ∀ (args : Array Value) (w : World), (callFunc ghk args).run Tryz.prog w = .ok (.enter ghk args) w := hgfhk
  have Hhk := Go.Lib.hid hk
  clear hg henv hk hgfhk
  have hb0 : Below w.heap.size w ((w.alloc (.cells #[.pointer (some ⟨jb, 0, none⟩)] 197)).alloc (.cells #[.int .i64 dl] 3)) := (((Below.refl _ _).alloc (Nat.le_refl _) _).alloc (by first | (simp; done) | (simp; omega)) _)
  have HE0 : Hid (Env L ((w.alloc (.cells #[.pointer (some ⟨jb, 0, none⟩)] 197)).alloc (.cells #[.int .i64 dl] 3)) [(w.heap.size + 1, [.int .i64 dl]), (w.heap.size, [.pointer (some ⟨jb, 0, none⟩)]), (jb, [.pointer (some ⟨E.k, 0, none⟩), .int .i64 wk, .int .i64 n, .int .i64 g, .func (.func ghk) #[] chk])]) := Go.Lib.hid (Env.alloc_at (Env.alloc_at HE.out (fun b hb => HG.out.new b (by first | exact hb | (simp at hb; omega))) [.pointer (some ⟨jb, 0, none⟩)] 197 (b := w.heap.size) (by first | rfl | (simp; done) | (simp; omega))) (fun b hb => HG.out.new b (by first | exact hb | (simp at hb; omega))) [.int .i64 dl] 3 (b := w.heap.size + 1) (by first | rfl | (simp; done) | (simp; omega)))
  replace HG := Go.Lib.hid (HG.out.below hb0)
  replace HE := Go.Lib.hid (HE0.out)
  replace Hhk := Go.Lib.hid (ConSim.ext E.cf (prApp E.cf R0) E t Hhk.out (below_ext hb0 t L))
  replace HD := Go.Lib.hid (HD.out.trans (below_did hb0 t L))
  clear hb0 HE0
  have q0_0 : ((w.alloc (.cells #[.pointer (some ⟨jb, 0, none⟩)] 197)).alloc (.cells #[.int .i64 dl] 3)).cell? ⟨w.heap.size + 1, 0, none⟩ = some (.int .i64 dl) := HE.out.cell 0 0 rfl rfl
  have q1_0 : ((w.alloc (.cells #[.pointer (some ⟨jb, 0, none⟩)] 197)).alloc (.cells #[.int .i64 dl] 3)).cell? ⟨w.heap.size, 0, none⟩ = some (.pointer (some ⟨jb, 0, none⟩)) := HE.out.cell 1 0 rfl rfl
  have q2_0 : ((w.alloc (.cells #[.pointer (some ⟨jb, 0, none⟩)] 197)).alloc (.cells #[.int .i64 dl] 3)).cell? ⟨jb, 0, none⟩ = some (.pointer (some ⟨E.k, 0, none⟩)) := HE.out.cell 2 0 rfl rfl
  have q2_1 : ((w.alloc (.cells #[.pointer (some ⟨jb, 0, none⟩)] 197)).alloc (.cells #[.int .i64 dl] 3)).cell? ⟨jb, 1, none⟩ = some (.int .i64 wk) := HE.out.cell 2 1 rfl rfl
  have q2_2 : ((w.alloc (.cells #[.pointer (some ⟨jb, 0, none⟩)] 197)).alloc (.cells #[.int .i64 dl] 3)).cell? ⟨jb, 2, none⟩ = some (.int .i64 n) := HE.out.cell 2 2 rfl rfl
  have q2_3 : ((w.alloc (.cells #[.pointer (some ⟨jb, 0, none⟩)] 197)).alloc (.cells #[.int .i64 dl] 3)).cell? ⟨jb, 3, none⟩ = some (.int .i64 g) := HE.out.cell 2 3 rfl rfl
  have q2_4 : ((w.alloc (.cells #[.pointer (some ⟨jb, 0, none⟩)] 197)).alloc (.cells #[.int .i64 dl] 3)).cell? ⟨jb, 4, none⟩ = some (.func (.func ghk) #[] chk) := HE.out.cell 2 4 rfl rfl
  go_enter Tryz.func170, Tryz.ntmps170
  go_wp2
  generalize ((w.alloc (.cells #[.pointer (some ⟨jb, 0, none⟩)] 197)).alloc (.cells #[.int .i64 dl] 3)) = w0 at *
  have HCE := Go.Lib.hid (arm_cells HG.out)
  have HAT := Go.Lib.hid (arm_at HG.out n g)
  have q0_0' : ∀ d os, (Sort.grow (redrawn w0 d) os).cell? ⟨w.heap.size + 1, 0, none⟩ = some (.int .i64 dl) := fun d os => cell_regrown q0_0 d os
  have q1_0' : ∀ d os, (Sort.grow (redrawn w0 d) os).cell? ⟨w.heap.size, 0, none⟩ = some (.pointer (some ⟨jb, 0, none⟩)) := fun d os => cell_regrown q1_0 d os
  have q2_0' : ∀ d os, (Sort.grow (redrawn w0 d) os).cell? ⟨jb, 0, none⟩ = some (.pointer (some ⟨E.k, 0, none⟩)) := fun d os => cell_regrown q2_0 d os
  have q2_1' : ∀ d os, (Sort.grow (redrawn w0 d) os).cell? ⟨jb, 1, none⟩ = some (.int .i64 wk) := fun d os => cell_regrown q2_1 d os
  have q2_2' : ∀ d os, (Sort.grow (redrawn w0 d) os).cell? ⟨jb, 2, none⟩ = some (.int .i64 n) := fun d os => cell_regrown q2_2 d os
  have q2_3' : ∀ d os, (Sort.grow (redrawn w0 d) os).cell? ⟨jb, 3, none⟩ = some (.int .i64 g) := fun d os => cell_regrown q2_3 d os
  have q2_4' : ∀ d os, (Sort.grow (redrawn w0 d) os).cell? ⟨jb, 4, none⟩ = some (.func (.func ghk) #[] chk) := fun d os => cell_regrown q2_4 d os
  refine wp_region_below_tail 15 (by kernel_rfl) (by kernel_rfl) ?_
  simp only [List.take_succ_cons, List.take_zero, List.drop_succ_cons, List.drop_zero]
  repeat (go_big_quiet_step (first
    | (go_at_call 44; rename_i p; exact Calls.regrown_of (HCE.out _ (below_regrown w0 p.d p.os)))
    | (go_at_call 161; rename_i p; exact Calls.regrown_of (HAT.out _ (below_regrown w0 p.d p.os)))))
  refine wpQuiet_nil ?_
  intro w1 hw'
  obtain ⟨p, rfl⟩ := hw'
  have hb := below_regrown w0 p.d p.os
  clear q0_0' q1_0' q2_0' q2_1' q2_2' q2_3' q2_4' q0_0 q1_0 q2_0 q2_1 q2_2 q2_3 q2_4
  generalize Sort.grow (redrawn w0 p.d) p.os = w1 at *
  replace HG := Go.Lib.hid (HG.out.below hb)
  replace HE := Go.Lib.hid (HE.out.ext (below_ext hb t L))
  replace Hhk := Go.Lib.hid (ConSim.ext E.cf (prApp E.cf R0) E t Hhk.out (below_ext hb t L))
  replace HD := Go.Lib.hid (HD.out.trans (below_did hb t L))
  clear hb
  have q0_0 : w1.cell? ⟨w.heap.size + 1, 0, none⟩ = some (.int .i64 dl) := HE.out.cell 0 0 rfl rfl
  have q1_0 : w1.cell? ⟨w.heap.size, 0, none⟩ = some (.pointer (some ⟨jb, 0, none⟩)) := HE.out.cell 1 0 rfl rfl
  have q2_0 : w1.cell? ⟨jb, 0, none⟩ = some (.pointer (some ⟨E.k, 0, none⟩)) := HE.out.cell 2 0 rfl rfl
  have q2_1 : w1.cell? ⟨jb, 1, none⟩ = some (.int .i64 wk) := HE.out.cell 2 1 rfl rfl
  have q2_2 : w1.cell? ⟨jb, 2, none⟩ = some (.int .i64 n) := HE.out.cell 2 2 rfl rfl
  have q2_3 : w1.cell? ⟨jb, 3, none⟩ = some (.int .i64 g) := HE.out.cell 2 3 rfl rfl
  have q2_4 : w1.cell? ⟨jb, 4, none⟩ = some (.func (.func ghk) #[] chk) := HE.out.cell 2 4 rfl rfl
  have HT := Go.Lib.hid (load_at hR (i := E.cf.state n) HG.out (ra2_con (k := k) hR (HE.out.sub (env' := [(w.heap.size, [.pointer (some ⟨jb, 0, none⟩)]), (w.heap.size + 1, [.int .i64 dl]), (jb, [.pointer (some ⟨E.k, 0, none⟩), .int .i64 wk, .int .i64 n, .int .i64 g, .func (.func ghk) #[] chk])]) (by simp)) Hhk.out hw hnb hdb))
  go_wp2_with fail
  refine (HT.out).mono ?_
  rintro e w9 ⟨v2, L9, rfl, hd2, hg2, hc2⟩
  go_wp2
  go_ret
  exact ⟨v2, L9, rfl, HD.out.trans hd2, hg2, hc2⟩
set_option maxHeartbeats 2000000 in
theorem ra0_call1 (hR : RMono (prApp E.cf R0)) {m : Nat} {wk n g : Int} {vk : Value} {k : PR ρ} {L : Lab} {w : World} {S : St} {jb : Nat} {bj : Nat} (hg : Good E L S w) (henv : Env L w [(bj, [.pointer (some ⟨jb, 0, none⟩)]), (jb, [.pointer (some ⟨E.k, 0, none⟩), .int .i64 wk, .int .i64 n, .int .i64 g, vk])]) (hk : ConSim E.cf (prApp E.cf R0) E t isHe m L w vk (.ret k)) (hw : 0 ≤ wk) (hbd : Bd (prApp E.cf R0 k (.he 0 0 1) (S.note (rearmPoint wk n g 0 0 0 1))).1) :
    Calls Tryz.prog 166 #[.pointer (some ⟨bj, 0, none⟩)] w (Post E.cf (prApp E.cf R0) E t m L w (prApp E.cf R0 k (.he 0 0 1) (S.note (rearmPoint wk n g 0 0 0 1)))) := by
  have HD := Go.Lib.hid (Did.refl t L w)
  have HG := Go.Lib.hid hg
  have HE := Go.Lib.hid henv
  obtain ⟨ghk, chk, hvhk, hgfhk, _⟩ := id hk
  subst hvhk
  have henhk : ∀ (args : Array Value) (w : World), (callFunc ghk args).run Tryz.prog w = .ok (.enter ghk args) w := hgfhk
  have Hhk := Go.Lib.hid hk
  clear hg henv hk hgfhk
  have q0_0 : w.cell? ⟨bj, 0, none⟩ = some (.pointer (some ⟨jb, 0, none⟩)) := HE.out.cell 0 0 rfl rfl
  have q1_0 : w.cell? ⟨jb, 0, none⟩ = some (.pointer (some ⟨E.k, 0, none⟩)) := HE.out.cell 1 0 rfl rfl
  have q1_1 : w.cell? ⟨jb, 1, none⟩ = some (.int .i64 wk) := HE.out.cell 1 1 rfl rfl
  have q1_2 : w.cell? ⟨jb, 2, none⟩ = some (.int .i64 n) := HE.out.cell 1 2 rfl rfl
  have q1_3 : w.cell? ⟨jb, 3, none⟩ = some (.int .i64 g) := HE.out.cell 1 3 rfl rfl
  have q1_4 : w.cell? ⟨jb, 4, none⟩ = some (.func (.func ghk) #[] chk) := HE.out.cell 1 4 rfl rfl
  go_enter Tryz.func166, Tryz.ntmps166
  go_wp2_with fail
  refine (ra_fail (er := 1) hR HG.out (HE.out.sub (env' := [(jb, [.pointer (some ⟨E.k, 0, none⟩), .int .i64 wk, .int .i64 n, .int .i64 g, .func (.func ghk) #[] chk])]) (by simp)) Hhk.out hw (by decide) hbd).mono ?_
  rintro e w9 ⟨v2, L9, rfl, hd2, hg2, hc2⟩
  go_wp2
  go_ret
  exact ⟨v2, L9, rfl, HD.out.trans hd2, hg2, hc2⟩
theorem ra0_con1 (hR : RMono (prApp E.cf R0)) {m : Nat} {wk n g : Int} {vk : Value} {k : PR ρ} {L : Lab} {w : World} {jb : Nat} {bj : Nat} (henv : Env L w [(bj, [.pointer (some ⟨jb, 0, none⟩)]), (jb, [.pointer (some ⟨E.k, 0, none⟩), .int .i64 wk, .int .i64 n, .int .i64 g, vk])]) (hk : ConSim E.cf (prApp E.cf R0) E t isHe m L w vk (.ret k)) (hw : 0 ≤ wk) :
    ConSim E.cf (prApp E.cf R0) E t isU m L w (.func (.func 166) #[] #[.pointer (some ⟨bj, 0, none⟩)]) (.ret (.ra0 wk n g 1 k)) := by
  refine ⟨_, _, rfl, enters_of Tryz.func166 (by kernel_rfl) rfl, ?_⟩
  intro a L' w' S ha hx hg hbd
  cases a with
  | u =>
    show Calls _ _ #[_] _ _
    exact ra0_call1 hR hg (henv.ext hx) (ConSim.ext E.cf (prApp E.cf R0) E t hk hx) hw hbd
  | _ => exact absurd ha (by simp [isU])
set_option maxHeartbeats 2000000 in
theorem ra0_call2 (hR : RMono (prApp E.cf R0)) {m : Nat} {wk n g : Int} {vk : Value} {k : PR ρ} {L : Lab} {w : World} {S : St} {jb : Nat} {bj : Nat} (hg : Good E L S w) (henv : Env L w [(bj, [.pointer (some ⟨jb, 0, none⟩)]), (jb, [.pointer (some ⟨E.k, 0, none⟩), .int .i64 wk, .int .i64 n, .int .i64 g, vk])]) (hk : ConSim E.cf (prApp E.cf R0) E t isHe m L w vk (.ret k)) (hw : 0 ≤ wk) (hbd : Bd (prApp E.cf R0 k (.he 0 0 4) (S.note (rearmPoint wk n g 0 0 0 4))).1) :
    Calls Tryz.prog 168 #[.pointer (some ⟨bj, 0, none⟩)] w (Post E.cf (prApp E.cf R0) E t m L w (prApp E.cf R0 k (.he 0 0 4) (S.note (rearmPoint wk n g 0 0 0 4)))) := by
  have HD := Go.Lib.hid (Did.refl t L w)
  have HG := Go.Lib.hid hg
  have HE := Go.Lib.hid henv
  obtain ⟨ghk, chk, hvhk, hgfhk, _⟩ := id hk
  subst hvhk
  have henhk : ∀ (args : Array Value) (w : World), (callFunc ghk args).run Tryz.prog w = .ok (.enter ghk args) w := hgfhk
  have Hhk := Go.Lib.hid hk
  clear hg henv hk hgfhk
  have q0_0 : w.cell? ⟨bj, 0, none⟩ = some (.pointer (some ⟨jb, 0, none⟩)) := HE.out.cell 0 0 rfl rfl
  have q1_0 : w.cell? ⟨jb, 0, none⟩ = some (.pointer (some ⟨E.k, 0, none⟩)) := HE.out.cell 1 0 rfl rfl
  have q1_1 : w.cell? ⟨jb, 1, none⟩ = some (.int .i64 wk) := HE.out.cell 1 1 rfl rfl
  have q1_2 : w.cell? ⟨jb, 2, none⟩ = some (.int .i64 n) := HE.out.cell 1 2 rfl rfl
  have q1_3 : w.cell? ⟨jb, 3, none⟩ = some (.int .i64 g) := HE.out.cell 1 3 rfl rfl
  have q1_4 : w.cell? ⟨jb, 4, none⟩ = some (.func (.func ghk) #[] chk) := HE.out.cell 1 4 rfl rfl
  go_enter Tryz.func168, Tryz.ntmps168
  go_wp2_with fail
  refine (ra_fail (er := 4) hR HG.out (HE.out.sub (env' := [(jb, [.pointer (some ⟨E.k, 0, none⟩), .int .i64 wk, .int .i64 n, .int .i64 g, .func (.func ghk) #[] chk])]) (by simp)) Hhk.out hw (by decide) hbd).mono ?_
  rintro e w9 ⟨v2, L9, rfl, hd2, hg2, hc2⟩
  go_wp2
  go_ret
  exact ⟨v2, L9, rfl, HD.out.trans hd2, hg2, hc2⟩
theorem ra0_con2 (hR : RMono (prApp E.cf R0)) {m : Nat} {wk n g : Int} {vk : Value} {k : PR ρ} {L : Lab} {w : World} {jb : Nat} {bj : Nat} (henv : Env L w [(bj, [.pointer (some ⟨jb, 0, none⟩)]), (jb, [.pointer (some ⟨E.k, 0, none⟩), .int .i64 wk, .int .i64 n, .int .i64 g, vk])]) (hk : ConSim E.cf (prApp E.cf R0) E t isHe m L w vk (.ret k)) (hw : 0 ≤ wk) :
    ConSim E.cf (prApp E.cf R0) E t isU m L w (.func (.func 168) #[] #[.pointer (some ⟨bj, 0, none⟩)]) (.ret (.ra0 wk n g 4 k)) := by
  refine ⟨_, _, rfl, enters_of Tryz.func168 (by kernel_rfl) rfl, ?_⟩
  intro a L' w' S ha hx hg hbd
  cases a with
  | u =>
    show Calls _ _ #[_] _ _
    exact ra0_call2 hR hg (henv.ext hx) (ConSim.ext E.cf (prApp E.cf R0) E t hk hx) hw hbd
  | _ => exact absurd ha (by simp [isU])
set_option maxHeartbeats 2000000 in
theorem ra1_far_ (hR : RMono (prApp E.cf R0)) {m : Nat} {wk n g : Int} {vk : Value} {k : PR ρ} {L : Lab} {w : World} {S : St} {jb : Nat} {bk bj x : Nat} {ticks : Int} (hg : Good E L S w) (henv : Env L w [(bk, [.int .i64 ticks]), (bj, [.pointer (some ⟨jb, 0, none⟩)]), (jb, [.pointer (some ⟨E.k, 0, none⟩), .int .i64 wk, .int .i64 n, .int .i64 g, vk])]) (hk : ConSim E.cf (prApp E.cf R0) E t isHe m L w vk (.ret k)) (hw : 0 ≤ wk) (hnb : 0 ≤ n ∧ n ≤ 4294967294) (htk : 0 ≤ ticks) (htu : ticks < 9223372036854775808) (hx2 : x ≤ 1073741823) (hf : 1073741823 - (x : Int) < ticks) (hbd : Bd (prApp E.cf R0 k (.he 0 0 2) (S.note (rearmPoint wk n g 0 0 0 2))).1) :
    Calls Tryz.prog 169 #[.int .u64 x, .pointer (some ⟨bk, 0, none⟩), .pointer (some ⟨bj, 0, none⟩)] w (Post E.cf (prApp E.cf R0) E t m L w (prApp E.cf R0 k (.he 0 0 2) (S.note (rearmPoint wk n g 0 0 0 2)))) := by
  have hwx : IntKind.i64.wrap (x : Int) = x := IntWalk.i64_in _ (by omega)
  have HD := Go.Lib.hid (Did.refl t L w)
  have HG := Go.Lib.hid hg
  have HE := Go.Lib.hid henv
  obtain ⟨ghk, chk, hvhk, hgfhk, _⟩ := id hk
  subst hvhk
  have henhk : ∀ (args : Array Value) (w : World), (callFunc ghk args).run Tryz.prog w = .ok (.enter ghk args) w := hgfhk
  have Hhk := Go.Lib.hid hk
  clear hg henv hk hgfhk
  have q0_0 : w.cell? ⟨bk, 0, none⟩ = some (.int .i64 ticks) := HE.out.cell 0 0 rfl rfl
  have q1_0 : w.cell? ⟨bj, 0, none⟩ = some (.pointer (some ⟨jb, 0, none⟩)) := HE.out.cell 1 0 rfl rfl
  have q2_0 : w.cell? ⟨jb, 0, none⟩ = some (.pointer (some ⟨E.k, 0, none⟩)) := HE.out.cell 2 0 rfl rfl
  have q2_1 : w.cell? ⟨jb, 1, none⟩ = some (.int .i64 wk) := HE.out.cell 2 1 rfl rfl
  have q2_2 : w.cell? ⟨jb, 2, none⟩ = some (.int .i64 n) := HE.out.cell 2 2 rfl rfl
  have q2_3 : w.cell? ⟨jb, 3, none⟩ = some (.int .i64 g) := HE.out.cell 2 3 rfl rfl
  have q2_4 : w.cell? ⟨jb, 4, none⟩ = some (.func (.func ghk) #[] chk) := HE.out.cell 2 4 rfl rfl
  go_enter Tryz.func169, Tryz.ntmps169
  go_wp2_with fail
  refine (ra_fail (er := 2) hR HG.out (HE.out.sub (env' := [(jb, [.pointer (some ⟨E.k, 0, none⟩), .int .i64 wk, .int .i64 n, .int .i64 g, .func (.func ghk) #[] chk])]) (by simp)) Hhk.out hw (by decide) hbd).mono ?_
  rintro e w9 ⟨v2, L9, rfl, hd2, hg2, hc2⟩
  go_wp2
  go_ret
  exact ⟨v2, L9, rfl, HD.out.trans hd2, hg2, hc2⟩
set_option maxHeartbeats 2000000 in
theorem ra1_near_ (hR : RMono (prApp E.cf R0)) {m : Nat} {wk n g : Int} {vk : Value} {k : PR ρ} {L : Lab} {w : World} {S : St} {jb : Nat} {bk bj x : Nat} {ticks : Int} (hg : Good E L S w) (henv : Env L w [(bk, [.int .i64 ticks]), (bj, [.pointer (some ⟨jb, 0, none⟩)]), (jb, [.pointer (some ⟨E.k, 0, none⟩), .int .i64 wk, .int .i64 n, .int .i64 g, vk])]) (hk : ConSim E.cf (prApp E.cf R0) E t isHe m L w vk (.ret k)) (hw : 0 ≤ wk) (hnb : 0 ≤ n ∧ n ≤ 4294967294) (htk : 0 ≤ ticks) (htu : ticks < 9223372036854775808) (hx2 : x ≤ 1073741823) (hf : ¬ 1073741823 - (x : Int) < ticks) :
    Calls Tryz.prog 169 #[.int .u64 x, .pointer (some ⟨bk, 0, none⟩), .pointer (some ⟨bj, 0, none⟩)] w (Post E.cf (prApp E.cf R0) E t m L w ((S, some (.load (E.cf.state n) (.ret (.ra2 wk n g ((x : Int) + ticks) k)))))) := by
  have hwx : IntKind.i64.wrap (x : Int) = x := IntWalk.i64_in _ (by omega)
  have hws : IntKind.i64.wrap ((x : Int) + ticks) = (x : Int) + ticks := IntWalk.i64_in _ (by omega)
  have HD := Go.Lib.hid (Did.refl t L w)
  have HG := Go.Lib.hid hg
  have HE := Go.Lib.hid henv
  obtain ⟨ghk, chk, hvhk, hgfhk, _⟩ := id hk
  subst hvhk
  have henhk : ∀ (args : Array Value) (w : World), (callFunc ghk args).run Tryz.prog w = .ok (.enter ghk args) w := hgfhk
  have Hhk := Go.Lib.hid hk
  clear hg henv hk hgfhk
  have q0_0 : w.cell? ⟨bk, 0, none⟩ = some (.int .i64 ticks) := HE.out.cell 0 0 rfl rfl
  have q1_0 : w.cell? ⟨bj, 0, none⟩ = some (.pointer (some ⟨jb, 0, none⟩)) := HE.out.cell 1 0 rfl rfl
  have q2_0 : w.cell? ⟨jb, 0, none⟩ = some (.pointer (some ⟨E.k, 0, none⟩)) := HE.out.cell 2 0 rfl rfl
  have q2_1 : w.cell? ⟨jb, 1, none⟩ = some (.int .i64 wk) := HE.out.cell 2 1 rfl rfl
  have q2_2 : w.cell? ⟨jb, 2, none⟩ = some (.int .i64 n) := HE.out.cell 2 2 rfl rfl
  have q2_3 : w.cell? ⟨jb, 3, none⟩ = some (.int .i64 g) := HE.out.cell 2 3 rfl rfl
  have q2_4 : w.cell? ⟨jb, 4, none⟩ = some (.func (.func ghk) #[] chk) := HE.out.cell 2 4 rfl rfl
  go_enter Tryz.func169, Tryz.ntmps169
  go_wp2_with fail
  refine (ra_look (dl := (x : Int) + ticks) hR HG.out (HE.out.sub (env' := [(jb, [.pointer (some ⟨E.k, 0, none⟩), .int .i64 wk, .int .i64 n, .int .i64 g, .func (.func ghk) #[] chk])]) (by simp)) Hhk.out hw hnb ⟨by omega, by omega⟩).mono ?_
  rintro e w9 ⟨v2, L9, rfl, hd2, hg2, hc2⟩
  go_wp2
  go_ret
  exact ⟨v2, L9, rfl, HD.out.trans hd2, hg2, hc2⟩
theorem ra1_con (hR : RMono (prApp E.cf R0)) {m : Nat} {wk n g : Int} {vk : Value} {k : PR ρ} {L : Lab} {w : World} {jb : Nat} {bk bj : Nat} {ticks : Int} (henv : Env L w [(bk, [.int .i64 ticks]), (bj, [.pointer (some ⟨jb, 0, none⟩)]), (jb, [.pointer (some ⟨E.k, 0, none⟩), .int .i64 wk, .int .i64 n, .int .i64 g, vk])]) (hk : ConSim E.cf (prApp E.cf R0) E t isHe m L w vk (.ret k)) (hw : 0 ≤ wk) (hnb : 0 ≤ n ∧ n ≤ 4294967294) (htk : 0 ≤ ticks) (htu : ticks < 9223372036854775808) :
    ConSim E.cf (prApp E.cf R0) E t isW m L w (.func (.func 169) #[] #[.pointer (some ⟨bk, 0, none⟩), .pointer (some ⟨bj, 0, none⟩)]) (.ret (.ra1 wk n g ticks k)) := by
  refine ⟨_, _, rfl, enters_of Tryz.func169 (by kernel_rfl) rfl, ?_⟩
  intro a L' w' S ha hx hg hbd
  cases a with
  | w x =>
    show Calls _ _ #[_, _, _] _ _
    rw [app_ret, prApp] at hbd ⊢
    by_cases hx2 : 1073741823 < x
    · rw [if_pos hx2] at hbd; exact (St.burst_no hbd).elim
    · have hti : toI x = x := by unfold toI wrap64; omega
      rw [if_neg hx2, hti] at hbd ⊢
      by_cases hf : 1073741823 - (x : Int) < ticks
      · rw [if_pos hf] at hbd ⊢; exact ra1_far_ hR hg (henv.ext hx) (ConSim.ext E.cf (prApp E.cf R0) E t hk hx) hw hnb htk htu (by omega) hf hbd
      · rw [if_neg hf]; exact ra1_near_ hR hg (henv.ext hx) (ConSim.ext E.cf (prApp E.cf R0) E t hk hx) hw hnb htk htu (by omega) hf
  | _ => exact absurd ha (by simp [isW])
set_option maxHeartbeats 4000000 in
theorem rearm_a (hR : RMono (prApp E.cf R0)) {m : Nat} {wk n g ticks : Int} {vk : Value} {k : PR ρ} {L : Lab} {w : World} {S : St} (hg : Good E L S w) (hk : ConSim E.cf (prApp E.cf R0) E t isHe m L w vk (.ret k)) (hw : 0 ≤ wk) (htu : ticks < 9223372036854775808) (h1 : ticks < 0) :
    Calls Tryz.prog 67 #[.pointer (some ⟨E.k, 0, none⟩), .int .i64 wk, .agg #[.int .i64 n, .int .i64 g], .int .i64 ticks, vk] w (Post E.cf (prApp E.cf R0) E t m L w (S, some (.idle (.ret (.ra0 wk n g 1 k))))) := by
  have henv := Env.nil L w
  have hd1 : decide (ticks < 0) = true := decide_eq_true h1
  have HD := Go.Lib.hid (Did.refl t L w)
  have HG := Go.Lib.hid hg
  have HE := Go.Lib.hid henv
  obtain ⟨ghk, chk, hvhk, hgfhk, _⟩ := id hk
  subst hvhk
  have henhk : ∀ (args : Array Value) (w : World), (callFunc ghk args).run Tryz.prog w = .ok (.enter ghk args) w := hgfhk
  have Hhk := Go.Lib.hid hk
  clear hg henv hk hgfhk
  have hb0 : Below w.heap.size w ((((w.alloc (.cells #[.int .i64 n, .int .i64 g] 46)).alloc (.cells #[.int .i64 ticks] 3)).alloc (.cells #[.pointer (some ⟨E.k, 0, none⟩), .int .i64 wk, .int .i64 n, .int .i64 g, .func (.func ghk) #[] chk] 199)).alloc (.cells #[.pointer (some ⟨w.heap.size + 1 + 1, 0, none⟩)] 197)) := (((((Below.refl _ _).alloc (Nat.le_refl _) _).alloc (by first | (simp; done) | (simp; omega)) _).alloc (by first | (simp; done) | (simp; omega)) _).alloc (by first | (simp; done) | (simp; omega)) _)
  have HE0 : Hid (Env L ((((w.alloc (.cells #[.int .i64 n, .int .i64 g] 46)).alloc (.cells #[.int .i64 ticks] 3)).alloc (.cells #[.pointer (some ⟨E.k, 0, none⟩), .int .i64 wk, .int .i64 n, .int .i64 g, .func (.func ghk) #[] chk] 199)).alloc (.cells #[.pointer (some ⟨w.heap.size + 1 + 1, 0, none⟩)] 197)) [(w.heap.size + 1 + 1 + 1, [.pointer (some ⟨w.heap.size + 1 + 1, 0, none⟩)]), (w.heap.size + 1 + 1, [.pointer (some ⟨E.k, 0, none⟩), .int .i64 wk, .int .i64 n, .int .i64 g, .func (.func ghk) #[] chk]), (w.heap.size + 1, [.int .i64 ticks]), (w.heap.size, [.int .i64 n, .int .i64 g])]) := Go.Lib.hid (Env.alloc_at (Env.alloc_at (Env.alloc_at (Env.alloc_at HE.out (fun b hb => HG.out.new b (by first | exact hb | (simp at hb; omega))) [.int .i64 n, .int .i64 g] 46 (b := w.heap.size) (by first | rfl | (simp; done) | (simp; omega))) (fun b hb => HG.out.new b (by first | exact hb | (simp at hb; omega))) [.int .i64 ticks] 3 (b := w.heap.size + 1) (by first | rfl | (simp; done) | (simp; omega))) (fun b hb => HG.out.new b (by first | exact hb | (simp at hb; omega))) [.pointer (some ⟨E.k, 0, none⟩), .int .i64 wk, .int .i64 n, .int .i64 g, .func (.func ghk) #[] chk] 199 (b := w.heap.size + 1 + 1) (by first | rfl | (simp; done) | (simp; omega))) (fun b hb => HG.out.new b (by first | exact hb | (simp at hb; omega))) [.pointer (some ⟨w.heap.size + 1 + 1, 0, none⟩)] 197 (b := w.heap.size + 1 + 1 + 1) (by first | rfl | (simp; done) | (simp; omega)))
  replace HG := Go.Lib.hid (HG.out.below hb0)
  replace HE := Go.Lib.hid (HE0.out)
  replace Hhk := Go.Lib.hid (ConSim.ext E.cf (prApp E.cf R0) E t Hhk.out (below_ext hb0 t L))
  replace HD := Go.Lib.hid (HD.out.trans (below_did hb0 t L))
  clear hb0 HE0
  have q0_0 : ((((w.alloc (.cells #[.int .i64 n, .int .i64 g] 46)).alloc (.cells #[.int .i64 ticks] 3)).alloc (.cells #[.pointer (some ⟨E.k, 0, none⟩), .int .i64 wk, .int .i64 n, .int .i64 g, .func (.func ghk) #[] chk] 199)).alloc (.cells #[.pointer (some ⟨w.heap.size + 1 + 1, 0, none⟩)] 197)).cell? ⟨w.heap.size + 1 + 1 + 1, 0, none⟩ = some (.pointer (some ⟨w.heap.size + 1 + 1, 0, none⟩)) := HE.out.cell 0 0 rfl rfl
  have q1_0 : ((((w.alloc (.cells #[.int .i64 n, .int .i64 g] 46)).alloc (.cells #[.int .i64 ticks] 3)).alloc (.cells #[.pointer (some ⟨E.k, 0, none⟩), .int .i64 wk, .int .i64 n, .int .i64 g, .func (.func ghk) #[] chk] 199)).alloc (.cells #[.pointer (some ⟨w.heap.size + 1 + 1, 0, none⟩)] 197)).cell? ⟨w.heap.size + 1 + 1, 0, none⟩ = some (.pointer (some ⟨E.k, 0, none⟩)) := HE.out.cell 1 0 rfl rfl
  have q1_1 : ((((w.alloc (.cells #[.int .i64 n, .int .i64 g] 46)).alloc (.cells #[.int .i64 ticks] 3)).alloc (.cells #[.pointer (some ⟨E.k, 0, none⟩), .int .i64 wk, .int .i64 n, .int .i64 g, .func (.func ghk) #[] chk] 199)).alloc (.cells #[.pointer (some ⟨w.heap.size + 1 + 1, 0, none⟩)] 197)).cell? ⟨w.heap.size + 1 + 1, 1, none⟩ = some (.int .i64 wk) := HE.out.cell 1 1 rfl rfl
  have q1_2 : ((((w.alloc (.cells #[.int .i64 n, .int .i64 g] 46)).alloc (.cells #[.int .i64 ticks] 3)).alloc (.cells #[.pointer (some ⟨E.k, 0, none⟩), .int .i64 wk, .int .i64 n, .int .i64 g, .func (.func ghk) #[] chk] 199)).alloc (.cells #[.pointer (some ⟨w.heap.size + 1 + 1, 0, none⟩)] 197)).cell? ⟨w.heap.size + 1 + 1, 2, none⟩ = some (.int .i64 n) := HE.out.cell 1 2 rfl rfl
  have q1_3 : ((((w.alloc (.cells #[.int .i64 n, .int .i64 g] 46)).alloc (.cells #[.int .i64 ticks] 3)).alloc (.cells #[.pointer (some ⟨E.k, 0, none⟩), .int .i64 wk, .int .i64 n, .int .i64 g, .func (.func ghk) #[] chk] 199)).alloc (.cells #[.pointer (some ⟨w.heap.size + 1 + 1, 0, none⟩)] 197)).cell? ⟨w.heap.size + 1 + 1, 3, none⟩ = some (.int .i64 g) := HE.out.cell 1 3 rfl rfl
  have q1_4 : ((((w.alloc (.cells #[.int .i64 n, .int .i64 g] 46)).alloc (.cells #[.int .i64 ticks] 3)).alloc (.cells #[.pointer (some ⟨E.k, 0, none⟩), .int .i64 wk, .int .i64 n, .int .i64 g, .func (.func ghk) #[] chk] 199)).alloc (.cells #[.pointer (some ⟨w.heap.size + 1 + 1, 0, none⟩)] 197)).cell? ⟨w.heap.size + 1 + 1, 4, none⟩ = some (.func (.func ghk) #[] chk) := HE.out.cell 1 4 rfl rfl
  have q2_0 : ((((w.alloc (.cells #[.int .i64 n, .int .i64 g] 46)).alloc (.cells #[.int .i64 ticks] 3)).alloc (.cells #[.pointer (some ⟨E.k, 0, none⟩), .int .i64 wk, .int .i64 n, .int .i64 g, .func (.func ghk) #[] chk] 199)).alloc (.cells #[.pointer (some ⟨w.heap.size + 1 + 1, 0, none⟩)] 197)).cell? ⟨w.heap.size + 1, 0, none⟩ = some (.int .i64 ticks) := HE.out.cell 2 0 rfl rfl
  have q3_0 : ((((w.alloc (.cells #[.int .i64 n, .int .i64 g] 46)).alloc (.cells #[.int .i64 ticks] 3)).alloc (.cells #[.pointer (some ⟨E.k, 0, none⟩), .int .i64 wk, .int .i64 n, .int .i64 g, .func (.func ghk) #[] chk] 199)).alloc (.cells #[.pointer (some ⟨w.heap.size + 1 + 1, 0, none⟩)] 197)).cell? ⟨w.heap.size, 0, none⟩ = some (.int .i64 n) := HE.out.cell 3 0 rfl rfl
  have q3_1 : ((((w.alloc (.cells #[.int .i64 n, .int .i64 g] 46)).alloc (.cells #[.int .i64 ticks] 3)).alloc (.cells #[.pointer (some ⟨E.k, 0, none⟩), .int .i64 wk, .int .i64 n, .int .i64 g, .func (.func ghk) #[] chk] 199)).alloc (.cells #[.pointer (some ⟨w.heap.size + 1 + 1, 0, none⟩)] 197)).cell? ⟨w.heap.size, 1, none⟩ = some (.int .i64 g) := HE.out.cell 3 1 rfl rfl
  go_enter Tryz.func67, Tryz.ntmps67
  go_wp2_with fail
  generalize ((((w.alloc (.cells #[.int .i64 n, .int .i64 g] 46)).alloc (.cells #[.int .i64 ticks] 3)).alloc (.cells #[.pointer (some ⟨E.k, 0, none⟩), .int .i64 wk, .int .i64 n, .int .i64 g, .func (.func ghk) #[] chk] 199)).alloc (.cells #[.pointer (some ⟨w.heap.size + 1 + 1, 0, none⟩)] 197)) = w0 at *
  refine (idle_at HG.out (ra0_con1 (bj := w.heap.size + 1 + 1 + 1) (k := k) hR (HE.out.sub (env' := [(w.heap.size + 1 + 1 + 1, [.pointer (some ⟨w.heap.size + 1 + 1, 0, none⟩)]), (w.heap.size + 1 + 1, [.pointer (some ⟨E.k, 0, none⟩), .int .i64 wk, .int .i64 n, .int .i64 g, .func (.func ghk) #[] chk])]) (by simp)) Hhk.out hw)).mono ?_
  rintro e w9 ⟨v2, L9, rfl, hd2, hg2, hc2⟩
  go_wp2
  go_ret
  exact ⟨v2, L9, rfl, HD.out.trans hd2, hg2, hc2⟩
set_option maxHeartbeats 4000000 in
theorem rearm_s (hR : RMono (prApp E.cf R0)) {m : Nat} {wk n g ticks : Int} {vk : Value} {k : PR ρ} {L : Lab} {w : World} {S : St} (hg : Good E L S w) (hk : ConSim E.cf (prApp E.cf R0) E t isHe m L w vk (.ret k)) (hw : 0 ≤ wk) (htu : ticks < 9223372036854775808) (h1 : ¬ ticks < 0) (h2 : E.cf.state n < 0) :
    Calls Tryz.prog 67 #[.pointer (some ⟨E.k, 0, none⟩), .int .i64 wk, .agg #[.int .i64 n, .int .i64 g], .int .i64 ticks, vk] w (Post E.cf (prApp E.cf R0) E t m L w (S, some (.idle (.ret (.ra0 wk n g 4 k))))) := by
  have henv := Env.nil L w
  have hd1 : decide (ticks < 0) = false := decide_eq_false h1
  have hd2 : decide (E.cf.state n < 0) = true := decide_eq_true h2
  have HD := Go.Lib.hid (Did.refl t L w)
  have HG := Go.Lib.hid hg
  have HE := Go.Lib.hid henv
  obtain ⟨ghk, chk, hvhk, hgfhk, _⟩ := id hk
  subst hvhk
  have henhk : ∀ (args : Array Value) (w : World), (callFunc ghk args).run Tryz.prog w = .ok (.enter ghk args) w := hgfhk
  have Hhk := Go.Lib.hid hk
  clear hg henv hk hgfhk
  have hb0 : Below w.heap.size w ((((w.alloc (.cells #[.int .i64 n, .int .i64 g] 46)).alloc (.cells #[.int .i64 ticks] 3)).alloc (.cells #[.pointer (some ⟨E.k, 0, none⟩), .int .i64 wk, .int .i64 n, .int .i64 g, .func (.func ghk) #[] chk] 199)).alloc (.cells #[.pointer (some ⟨w.heap.size + 1 + 1, 0, none⟩)] 197)) := (((((Below.refl _ _).alloc (Nat.le_refl _) _).alloc (by first | (simp; done) | (simp; omega)) _).alloc (by first | (simp; done) | (simp; omega)) _).alloc (by first | (simp; done) | (simp; omega)) _)
  have HE0 : Hid (Env L ((((w.alloc (.cells #[.int .i64 n, .int .i64 g] 46)).alloc (.cells #[.int .i64 ticks] 3)).alloc (.cells #[.pointer (some ⟨E.k, 0, none⟩), .int .i64 wk, .int .i64 n, .int .i64 g, .func (.func ghk) #[] chk] 199)).alloc (.cells #[.pointer (some ⟨w.heap.size + 1 + 1, 0, none⟩)] 197)) [(w.heap.size + 1 + 1 + 1, [.pointer (some ⟨w.heap.size + 1 + 1, 0, none⟩)]), (w.heap.size + 1 + 1, [.pointer (some ⟨E.k, 0, none⟩), .int .i64 wk, .int .i64 n, .int .i64 g, .func (.func ghk) #[] chk]), (w.heap.size + 1, [.int .i64 ticks]), (w.heap.size, [.int .i64 n, .int .i64 g])]) := Go.Lib.hid (Env.alloc_at (Env.alloc_at (Env.alloc_at (Env.alloc_at HE.out (fun b hb => HG.out.new b (by first | exact hb | (simp at hb; omega))) [.int .i64 n, .int .i64 g] 46 (b := w.heap.size) (by first | rfl | (simp; done) | (simp; omega))) (fun b hb => HG.out.new b (by first | exact hb | (simp at hb; omega))) [.int .i64 ticks] 3 (b := w.heap.size + 1) (by first | rfl | (simp; done) | (simp; omega))) (fun b hb => HG.out.new b (by first | exact hb | (simp at hb; omega))) [.pointer (some ⟨E.k, 0, none⟩), .int .i64 wk, .int .i64 n, .int .i64 g, .func (.func ghk) #[] chk] 199 (b := w.heap.size + 1 + 1) (by first | rfl | (simp; done) | (simp; omega))) (fun b hb => HG.out.new b (by first | exact hb | (simp at hb; omega))) [.pointer (some ⟨w.heap.size + 1 + 1, 0, none⟩)] 197 (b := w.heap.size + 1 + 1 + 1) (by first | rfl | (simp; done) | (simp; omega)))
  replace HG := Go.Lib.hid (HG.out.below hb0)
  replace HE := Go.Lib.hid (HE0.out)
  replace Hhk := Go.Lib.hid (ConSim.ext E.cf (prApp E.cf R0) E t Hhk.out (below_ext hb0 t L))
  replace HD := Go.Lib.hid (HD.out.trans (below_did hb0 t L))
  clear hb0 HE0
  have q0_0 : ((((w.alloc (.cells #[.int .i64 n, .int .i64 g] 46)).alloc (.cells #[.int .i64 ticks] 3)).alloc (.cells #[.pointer (some ⟨E.k, 0, none⟩), .int .i64 wk, .int .i64 n, .int .i64 g, .func (.func ghk) #[] chk] 199)).alloc (.cells #[.pointer (some ⟨w.heap.size + 1 + 1, 0, none⟩)] 197)).cell? ⟨w.heap.size + 1 + 1 + 1, 0, none⟩ = some (.pointer (some ⟨w.heap.size + 1 + 1, 0, none⟩)) := HE.out.cell 0 0 rfl rfl
  have q1_0 : ((((w.alloc (.cells #[.int .i64 n, .int .i64 g] 46)).alloc (.cells #[.int .i64 ticks] 3)).alloc (.cells #[.pointer (some ⟨E.k, 0, none⟩), .int .i64 wk, .int .i64 n, .int .i64 g, .func (.func ghk) #[] chk] 199)).alloc (.cells #[.pointer (some ⟨w.heap.size + 1 + 1, 0, none⟩)] 197)).cell? ⟨w.heap.size + 1 + 1, 0, none⟩ = some (.pointer (some ⟨E.k, 0, none⟩)) := HE.out.cell 1 0 rfl rfl
  have q1_1 : ((((w.alloc (.cells #[.int .i64 n, .int .i64 g] 46)).alloc (.cells #[.int .i64 ticks] 3)).alloc (.cells #[.pointer (some ⟨E.k, 0, none⟩), .int .i64 wk, .int .i64 n, .int .i64 g, .func (.func ghk) #[] chk] 199)).alloc (.cells #[.pointer (some ⟨w.heap.size + 1 + 1, 0, none⟩)] 197)).cell? ⟨w.heap.size + 1 + 1, 1, none⟩ = some (.int .i64 wk) := HE.out.cell 1 1 rfl rfl
  have q1_2 : ((((w.alloc (.cells #[.int .i64 n, .int .i64 g] 46)).alloc (.cells #[.int .i64 ticks] 3)).alloc (.cells #[.pointer (some ⟨E.k, 0, none⟩), .int .i64 wk, .int .i64 n, .int .i64 g, .func (.func ghk) #[] chk] 199)).alloc (.cells #[.pointer (some ⟨w.heap.size + 1 + 1, 0, none⟩)] 197)).cell? ⟨w.heap.size + 1 + 1, 2, none⟩ = some (.int .i64 n) := HE.out.cell 1 2 rfl rfl
  have q1_3 : ((((w.alloc (.cells #[.int .i64 n, .int .i64 g] 46)).alloc (.cells #[.int .i64 ticks] 3)).alloc (.cells #[.pointer (some ⟨E.k, 0, none⟩), .int .i64 wk, .int .i64 n, .int .i64 g, .func (.func ghk) #[] chk] 199)).alloc (.cells #[.pointer (some ⟨w.heap.size + 1 + 1, 0, none⟩)] 197)).cell? ⟨w.heap.size + 1 + 1, 3, none⟩ = some (.int .i64 g) := HE.out.cell 1 3 rfl rfl
  have q1_4 : ((((w.alloc (.cells #[.int .i64 n, .int .i64 g] 46)).alloc (.cells #[.int .i64 ticks] 3)).alloc (.cells #[.pointer (some ⟨E.k, 0, none⟩), .int .i64 wk, .int .i64 n, .int .i64 g, .func (.func ghk) #[] chk] 199)).alloc (.cells #[.pointer (some ⟨w.heap.size + 1 + 1, 0, none⟩)] 197)).cell? ⟨w.heap.size + 1 + 1, 4, none⟩ = some (.func (.func ghk) #[] chk) := HE.out.cell 1 4 rfl rfl
  have q2_0 : ((((w.alloc (.cells #[.int .i64 n, .int .i64 g] 46)).alloc (.cells #[.int .i64 ticks] 3)).alloc (.cells #[.pointer (some ⟨E.k, 0, none⟩), .int .i64 wk, .int .i64 n, .int .i64 g, .func (.func ghk) #[] chk] 199)).alloc (.cells #[.pointer (some ⟨w.heap.size + 1 + 1, 0, none⟩)] 197)).cell? ⟨w.heap.size + 1, 0, none⟩ = some (.int .i64 ticks) := HE.out.cell 2 0 rfl rfl
  have q3_0 : ((((w.alloc (.cells #[.int .i64 n, .int .i64 g] 46)).alloc (.cells #[.int .i64 ticks] 3)).alloc (.cells #[.pointer (some ⟨E.k, 0, none⟩), .int .i64 wk, .int .i64 n, .int .i64 g, .func (.func ghk) #[] chk] 199)).alloc (.cells #[.pointer (some ⟨w.heap.size + 1 + 1, 0, none⟩)] 197)).cell? ⟨w.heap.size, 0, none⟩ = some (.int .i64 n) := HE.out.cell 3 0 rfl rfl
  have q3_1 : ((((w.alloc (.cells #[.int .i64 n, .int .i64 g] 46)).alloc (.cells #[.int .i64 ticks] 3)).alloc (.cells #[.pointer (some ⟨E.k, 0, none⟩), .int .i64 wk, .int .i64 n, .int .i64 g, .func (.func ghk) #[] chk] 199)).alloc (.cells #[.pointer (some ⟨w.heap.size + 1 + 1, 0, none⟩)] 197)).cell? ⟨w.heap.size, 1, none⟩ = some (.int .i64 g) := HE.out.cell 3 1 rfl rfl
  go_enter Tryz.func67, Tryz.ntmps67
  go_wp2_with fail
  generalize ((((w.alloc (.cells #[.int .i64 n, .int .i64 g] 46)).alloc (.cells #[.int .i64 ticks] 3)).alloc (.cells #[.pointer (some ⟨E.k, 0, none⟩), .int .i64 wk, .int .i64 n, .int .i64 g, .func (.func ghk) #[] chk] 199)).alloc (.cells #[.pointer (some ⟨w.heap.size + 1 + 1, 0, none⟩)] 197)) = w0 at *
  refine (chg_at HG.out n g).mono ?_
  rintro e w1 ⟨rfl, hb⟩
  clear q0_0 q1_0 q1_1 q1_2 q1_3 q1_4 q2_0 q3_0 q3_1
  replace HG := Go.Lib.hid (HG.out.below hb)
  replace HE := Go.Lib.hid (HE.out.ext (below_ext hb t L))
  replace Hhk := Go.Lib.hid (ConSim.ext E.cf (prApp E.cf R0) E t Hhk.out (below_ext hb t L))
  replace HD := Go.Lib.hid (HD.out.trans (below_did hb t L))
  clear hb
  have q0_0 : w1.cell? ⟨w.heap.size + 1 + 1 + 1, 0, none⟩ = some (.pointer (some ⟨w.heap.size + 1 + 1, 0, none⟩)) := HE.out.cell 0 0 rfl rfl
  have q1_0 : w1.cell? ⟨w.heap.size + 1 + 1, 0, none⟩ = some (.pointer (some ⟨E.k, 0, none⟩)) := HE.out.cell 1 0 rfl rfl
  have q1_1 : w1.cell? ⟨w.heap.size + 1 + 1, 1, none⟩ = some (.int .i64 wk) := HE.out.cell 1 1 rfl rfl
  have q1_2 : w1.cell? ⟨w.heap.size + 1 + 1, 2, none⟩ = some (.int .i64 n) := HE.out.cell 1 2 rfl rfl
  have q1_3 : w1.cell? ⟨w.heap.size + 1 + 1, 3, none⟩ = some (.int .i64 g) := HE.out.cell 1 3 rfl rfl
  have q1_4 : w1.cell? ⟨w.heap.size + 1 + 1, 4, none⟩ = some (.func (.func ghk) #[] chk) := HE.out.cell 1 4 rfl rfl
  have q2_0 : w1.cell? ⟨w.heap.size + 1, 0, none⟩ = some (.int .i64 ticks) := HE.out.cell 2 0 rfl rfl
  have q3_0 : w1.cell? ⟨w.heap.size, 0, none⟩ = some (.int .i64 n) := HE.out.cell 3 0 rfl rfl
  have q3_1 : w1.cell? ⟨w.heap.size, 1, none⟩ = some (.int .i64 g) := HE.out.cell 3 1 rfl rfl
  go_wp2_with fail
  refine (idle_at HG.out (ra0_con2 (bj := w.heap.size + 1 + 1 + 1) (k := k) hR (HE.out.sub (env' := [(w.heap.size + 1 + 1 + 1, [.pointer (some ⟨w.heap.size + 1 + 1, 0, none⟩)]), (w.heap.size + 1 + 1, [.pointer (some ⟨E.k, 0, none⟩), .int .i64 wk, .int .i64 n, .int .i64 g, .func (.func ghk) #[] chk])]) (by simp)) Hhk.out hw)).mono ?_
  rintro e w9 ⟨v2, L9, rfl, hd2, hg2, hc2⟩
  go_wp2
  go_ret
  exact ⟨v2, L9, rfl, HD.out.trans hd2, hg2, hc2⟩
set_option maxHeartbeats 4000000 in
theorem rearm_l (hR : RMono (prApp E.cf R0)) {m : Nat} {wk n g ticks : Int} {vk : Value} {k : PR ρ} {L : Lab} {w : World} {S : St} (hg : Good E L S w) (hk : ConSim E.cf (prApp E.cf R0) E t isHe m L w vk (.ret k)) (hw : 0 ≤ wk) (htu : ticks < 9223372036854775808) (h1 : ¬ ticks < 0) (h2 : ¬ E.cf.state n < 0) (hnb : 0 ≤ n ∧ n ≤ 4294967294) :
    Calls Tryz.prog 67 #[.pointer (some ⟨E.k, 0, none⟩), .int .i64 wk, .agg #[.int .i64 n, .int .i64 g], .int .i64 ticks, vk] w (Post E.cf (prApp E.cf R0) E t m L w (S, some (.load 0 (.ret (.ra1 wk n g ticks k))))) := by
  have henv := Env.nil L w
  have hd1 : decide (ticks < 0) = false := decide_eq_false h1
  have hd2 : decide (E.cf.state n < 0) = false := decide_eq_false h2
  have htk : 0 ≤ ticks := by omega
  have HD := Go.Lib.hid (Did.refl t L w)
  have HG := Go.Lib.hid hg
  have HE := Go.Lib.hid henv
  obtain ⟨ghk, chk, hvhk, hgfhk, _⟩ := id hk
  subst hvhk
  have henhk : ∀ (args : Array Value) (w : World), (callFunc ghk args).run Tryz.prog w = .ok (.enter ghk args) w := hgfhk
  have Hhk := Go.Lib.hid hk
  clear hg henv hk hgfhk
  have hb0 : Below w.heap.size w ((((w.alloc (.cells #[.int .i64 n, .int .i64 g] 46)).alloc (.cells #[.int .i64 ticks] 3)).alloc (.cells #[.pointer (some ⟨E.k, 0, none⟩), .int .i64 wk, .int .i64 n, .int .i64 g, .func (.func ghk) #[] chk] 199)).alloc (.cells #[.pointer (some ⟨w.heap.size + 1 + 1, 0, none⟩)] 197)) := (((((Below.refl _ _).alloc (Nat.le_refl _) _).alloc (by first | (simp; done) | (simp; omega)) _).alloc (by first | (simp; done) | (simp; omega)) _).alloc (by first | (simp; done) | (simp; omega)) _)
  have HE0 : Hid (Env L ((((w.alloc (.cells #[.int .i64 n, .int .i64 g] 46)).alloc (.cells #[.int .i64 ticks] 3)).alloc (.cells #[.pointer (some ⟨E.k, 0, none⟩), .int .i64 wk, .int .i64 n, .int .i64 g, .func (.func ghk) #[] chk] 199)).alloc (.cells #[.pointer (some ⟨w.heap.size + 1 + 1, 0, none⟩)] 197)) [(w.heap.size + 1 + 1 + 1, [.pointer (some ⟨w.heap.size + 1 + 1, 0, none⟩)]), (w.heap.size + 1 + 1, [.pointer (some ⟨E.k, 0, none⟩), .int .i64 wk, .int .i64 n, .int .i64 g, .func (.func ghk) #[] chk]), (w.heap.size + 1, [.int .i64 ticks]), (w.heap.size, [.int .i64 n, .int .i64 g])]) := Go.Lib.hid (Env.alloc_at (Env.alloc_at (Env.alloc_at (Env.alloc_at HE.out (fun b hb => HG.out.new b (by first | exact hb | (simp at hb; omega))) [.int .i64 n, .int .i64 g] 46 (b := w.heap.size) (by first | rfl | (simp; done) | (simp; omega))) (fun b hb => HG.out.new b (by first | exact hb | (simp at hb; omega))) [.int .i64 ticks] 3 (b := w.heap.size + 1) (by first | rfl | (simp; done) | (simp; omega))) (fun b hb => HG.out.new b (by first | exact hb | (simp at hb; omega))) [.pointer (some ⟨E.k, 0, none⟩), .int .i64 wk, .int .i64 n, .int .i64 g, .func (.func ghk) #[] chk] 199 (b := w.heap.size + 1 + 1) (by first | rfl | (simp; done) | (simp; omega))) (fun b hb => HG.out.new b (by first | exact hb | (simp at hb; omega))) [.pointer (some ⟨w.heap.size + 1 + 1, 0, none⟩)] 197 (b := w.heap.size + 1 + 1 + 1) (by first | rfl | (simp; done) | (simp; omega)))
  replace HG := Go.Lib.hid (HG.out.below hb0)
  replace HE := Go.Lib.hid (HE0.out)
  replace Hhk := Go.Lib.hid (ConSim.ext E.cf (prApp E.cf R0) E t Hhk.out (below_ext hb0 t L))
  replace HD := Go.Lib.hid (HD.out.trans (below_did hb0 t L))
  clear hb0 HE0
  have q0_0 : ((((w.alloc (.cells #[.int .i64 n, .int .i64 g] 46)).alloc (.cells #[.int .i64 ticks] 3)).alloc (.cells #[.pointer (some ⟨E.k, 0, none⟩), .int .i64 wk, .int .i64 n, .int .i64 g, .func (.func ghk) #[] chk] 199)).alloc (.cells #[.pointer (some ⟨w.heap.size + 1 + 1, 0, none⟩)] 197)).cell? ⟨w.heap.size + 1 + 1 + 1, 0, none⟩ = some (.pointer (some ⟨w.heap.size + 1 + 1, 0, none⟩)) := HE.out.cell 0 0 rfl rfl
  have q1_0 : ((((w.alloc (.cells #[.int .i64 n, .int .i64 g] 46)).alloc (.cells #[.int .i64 ticks] 3)).alloc (.cells #[.pointer (some ⟨E.k, 0, none⟩), .int .i64 wk, .int .i64 n, .int .i64 g, .func (.func ghk) #[] chk] 199)).alloc (.cells #[.pointer (some ⟨w.heap.size + 1 + 1, 0, none⟩)] 197)).cell? ⟨w.heap.size + 1 + 1, 0, none⟩ = some (.pointer (some ⟨E.k, 0, none⟩)) := HE.out.cell 1 0 rfl rfl
  have q1_1 : ((((w.alloc (.cells #[.int .i64 n, .int .i64 g] 46)).alloc (.cells #[.int .i64 ticks] 3)).alloc (.cells #[.pointer (some ⟨E.k, 0, none⟩), .int .i64 wk, .int .i64 n, .int .i64 g, .func (.func ghk) #[] chk] 199)).alloc (.cells #[.pointer (some ⟨w.heap.size + 1 + 1, 0, none⟩)] 197)).cell? ⟨w.heap.size + 1 + 1, 1, none⟩ = some (.int .i64 wk) := HE.out.cell 1 1 rfl rfl
  have q1_2 : ((((w.alloc (.cells #[.int .i64 n, .int .i64 g] 46)).alloc (.cells #[.int .i64 ticks] 3)).alloc (.cells #[.pointer (some ⟨E.k, 0, none⟩), .int .i64 wk, .int .i64 n, .int .i64 g, .func (.func ghk) #[] chk] 199)).alloc (.cells #[.pointer (some ⟨w.heap.size + 1 + 1, 0, none⟩)] 197)).cell? ⟨w.heap.size + 1 + 1, 2, none⟩ = some (.int .i64 n) := HE.out.cell 1 2 rfl rfl
  have q1_3 : ((((w.alloc (.cells #[.int .i64 n, .int .i64 g] 46)).alloc (.cells #[.int .i64 ticks] 3)).alloc (.cells #[.pointer (some ⟨E.k, 0, none⟩), .int .i64 wk, .int .i64 n, .int .i64 g, .func (.func ghk) #[] chk] 199)).alloc (.cells #[.pointer (some ⟨w.heap.size + 1 + 1, 0, none⟩)] 197)).cell? ⟨w.heap.size + 1 + 1, 3, none⟩ = some (.int .i64 g) := HE.out.cell 1 3 rfl rfl
  have q1_4 : ((((w.alloc (.cells #[.int .i64 n, .int .i64 g] 46)).alloc (.cells #[.int .i64 ticks] 3)).alloc (.cells #[.pointer (some ⟨E.k, 0, none⟩), .int .i64 wk, .int .i64 n, .int .i64 g, .func (.func ghk) #[] chk] 199)).alloc (.cells #[.pointer (some ⟨w.heap.size + 1 + 1, 0, none⟩)] 197)).cell? ⟨w.heap.size + 1 + 1, 4, none⟩ = some (.func (.func ghk) #[] chk) := HE.out.cell 1 4 rfl rfl
  have q2_0 : ((((w.alloc (.cells #[.int .i64 n, .int .i64 g] 46)).alloc (.cells #[.int .i64 ticks] 3)).alloc (.cells #[.pointer (some ⟨E.k, 0, none⟩), .int .i64 wk, .int .i64 n, .int .i64 g, .func (.func ghk) #[] chk] 199)).alloc (.cells #[.pointer (some ⟨w.heap.size + 1 + 1, 0, none⟩)] 197)).cell? ⟨w.heap.size + 1, 0, none⟩ = some (.int .i64 ticks) := HE.out.cell 2 0 rfl rfl
  have q3_0 : ((((w.alloc (.cells #[.int .i64 n, .int .i64 g] 46)).alloc (.cells #[.int .i64 ticks] 3)).alloc (.cells #[.pointer (some ⟨E.k, 0, none⟩), .int .i64 wk, .int .i64 n, .int .i64 g, .func (.func ghk) #[] chk] 199)).alloc (.cells #[.pointer (some ⟨w.heap.size + 1 + 1, 0, none⟩)] 197)).cell? ⟨w.heap.size, 0, none⟩ = some (.int .i64 n) := HE.out.cell 3 0 rfl rfl
  have q3_1 : ((((w.alloc (.cells #[.int .i64 n, .int .i64 g] 46)).alloc (.cells #[.int .i64 ticks] 3)).alloc (.cells #[.pointer (some ⟨E.k, 0, none⟩), .int .i64 wk, .int .i64 n, .int .i64 g, .func (.func ghk) #[] chk] 199)).alloc (.cells #[.pointer (some ⟨w.heap.size + 1 + 1, 0, none⟩)] 197)).cell? ⟨w.heap.size, 1, none⟩ = some (.int .i64 g) := HE.out.cell 3 1 rfl rfl
  go_enter Tryz.func67, Tryz.ntmps67
  go_wp2_with fail
  generalize ((((w.alloc (.cells #[.int .i64 n, .int .i64 g] 46)).alloc (.cells #[.int .i64 ticks] 3)).alloc (.cells #[.pointer (some ⟨E.k, 0, none⟩), .int .i64 wk, .int .i64 n, .int .i64 g, .func (.func ghk) #[] chk] 199)).alloc (.cells #[.pointer (some ⟨w.heap.size + 1 + 1, 0, none⟩)] 197)) = w0 at *
  refine (chg_at HG.out n g).mono ?_
  rintro e w1 ⟨rfl, hb⟩
  clear q0_0 q1_0 q1_1 q1_2 q1_3 q1_4 q2_0 q3_0 q3_1
  replace HG := Go.Lib.hid (HG.out.below hb)
  replace HE := Go.Lib.hid (HE.out.ext (below_ext hb t L))
  replace Hhk := Go.Lib.hid (ConSim.ext E.cf (prApp E.cf R0) E t Hhk.out (below_ext hb t L))
  replace HD := Go.Lib.hid (HD.out.trans (below_did hb t L))
  clear hb
  have q0_0 : w1.cell? ⟨w.heap.size + 1 + 1 + 1, 0, none⟩ = some (.pointer (some ⟨w.heap.size + 1 + 1, 0, none⟩)) := HE.out.cell 0 0 rfl rfl
  have q1_0 : w1.cell? ⟨w.heap.size + 1 + 1, 0, none⟩ = some (.pointer (some ⟨E.k, 0, none⟩)) := HE.out.cell 1 0 rfl rfl
  have q1_1 : w1.cell? ⟨w.heap.size + 1 + 1, 1, none⟩ = some (.int .i64 wk) := HE.out.cell 1 1 rfl rfl
  have q1_2 : w1.cell? ⟨w.heap.size + 1 + 1, 2, none⟩ = some (.int .i64 n) := HE.out.cell 1 2 rfl rfl
  have q1_3 : w1.cell? ⟨w.heap.size + 1 + 1, 3, none⟩ = some (.int .i64 g) := HE.out.cell 1 3 rfl rfl
  have q1_4 : w1.cell? ⟨w.heap.size + 1 + 1, 4, none⟩ = some (.func (.func ghk) #[] chk) := HE.out.cell 1 4 rfl rfl
  have q2_0 : w1.cell? ⟨w.heap.size + 1, 0, none⟩ = some (.int .i64 ticks) := HE.out.cell 2 0 rfl rfl
  have q3_0 : w1.cell? ⟨w.heap.size, 0, none⟩ = some (.int .i64 n) := HE.out.cell 3 0 rfl rfl
  have q3_1 : w1.cell? ⟨w.heap.size, 1, none⟩ = some (.int .i64 g) := HE.out.cell 3 1 rfl rfl
  go_wp2_with fail
  refine (core_cells HG.out).mono ?_
  rintro e w2 ⟨rfl, hb⟩
  subst hb
  go_wp2_with fail
  refine (core_plan HG.out).mono ?_
  rintro e w3 ⟨rfl, hb⟩
  subst hb
  go_wp2_with fail
  refine (plan_Clock _ _).mono ?_
  rintro e w4 ⟨rfl, hb⟩
  subst hb
  go_wp2_with fail
  refine (load_at hR (i := 0) HG.out (ra1_con (bk := w.heap.size + 1) (bj := w.heap.size + 1 + 1 + 1) (k := k) hR (HE.out.sub (env' := [(w.heap.size + 1, [.int .i64 ticks]), (w.heap.size + 1 + 1 + 1, [.pointer (some ⟨w.heap.size + 1 + 1, 0, none⟩)]), (w.heap.size + 1 + 1, [.pointer (some ⟨E.k, 0, none⟩), .int .i64 wk, .int .i64 n, .int .i64 g, .func (.func ghk) #[] chk])]) (by simp)) Hhk.out hw hnb htk htu)).mono ?_
  rintro e w9 ⟨v2, L9, rfl, hd2, hg2, hc2⟩
  go_wp2
  go_ret
  exact ⟨v2, L9, rfl, HD.out.trans hd2, hg2, hc2⟩
theorem state_bd {c : Cf} (hok : c.Ok) {n : Int} (h : ¬ c.state n < 0) : 0 ≤ n ∧ n ≤ 4294967294 := by
  have h2 := hok.n2
  by_cases q : 0 ≤ n ∧ n < c.nodes
  · omega
  · exfalso; apply h; unfold Cf.state Cf.node; rw [among_no q]; unfold within; rw [if_pos (by omega)]; omega
theorem rearm_any (hR : RMono (prApp E.cf R0)) {m : Nat} {wk n g ticks : Int} {vk : Value} {k : PR ρ} {L : Lab} {w : World} {S : St} (hg : Good E L S w) (hk : ConSim E.cf (prApp E.cf R0) E t isHe m L w vk (.ret k)) (hw : 0 ≤ wk) (htu : ticks < 9223372036854775808) :
    Calls Tryz.prog 67 #[.pointer (some ⟨E.k, 0, none⟩), .int .i64 wk, .agg #[.int .i64 n, .int .i64 g], .int .i64 ticks, vk] w (Post E.cf (prApp E.cf R0) E t m L w (S, some (rearmK E.cf wk n g ticks k))) := by
  unfold rearmK
  by_cases h1 : ticks < 0
  · rw [if_pos h1]; exact rearm_a hR hg hk hw htu h1
  · rw [if_neg h1]
    by_cases h2 : E.cf.state n < 0
    · rw [if_pos h2]; exact rearm_s hR hg hk hw htu h1 h2
    · rw [if_neg h2]; exact rearm_l hR hg hk hw htu h1 h2 (state_bd hg.ok h2)
end
end Go.Proofs.YtgemjjpmoejgdaaGreat
