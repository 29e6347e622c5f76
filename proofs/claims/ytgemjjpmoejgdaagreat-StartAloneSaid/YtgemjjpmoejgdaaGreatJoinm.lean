/- A Start's closures: what each does. -/
import Derived.Test.YtgemjjpmoejgdaaGreatJoinl
namespace Go.Proofs.YtgemjjpmoejgdaaGreat
open Go.RowKit
set_option maxRecDepth 100000
set_option linter.unusedVariables false

def isHe : Arg → Prop | .he n g e => (0 ≤ n ∧ n ≤ 4294967294) ∧ (0 ≤ g ∧ g ≤ 4294967295) ∧ (0 ≤ e ∧ e ≤ 100) | _ => False
theorem Bd.of_note {S : St} {e : Ev} (h : Bd (S.note e)) : S.log.length ≤ 1099511627775 := by
  have := h.log
  unfold St.note at this
  simp at this
  omega
theorem Bd.of_mono {ρ : Type} {R : ρ → Arg → St → St × Option (K ρ)} (hR : RMono R) {r : ρ} {a : Arg} {S : St} (h : Bd (R r a S).1) : Bd S := ⟨Nat.le_trans (hR r a S).1 h.cnt, Nat.le_trans (hR r a S).2 h.log⟩
section
variable {ρ : Type} {R0 : ρ → Arg → St → St × Option (K (PR ρ))} {E : G} {t : Nat}
set_option maxHeartbeats 2000000 in
theorem st_point {wk ticks shard user n g T er : Int} {vk : Value} {L : Lab} {w : World} {S : St} {jb : Nat} (hg : Good E L S w) (henv : Env L w [(jb, [.pointer (some ⟨E.k, 0, none⟩), .int .i64 wk, .int .i64 ticks, .int .i64 shard, .int .i64 user, vk])]) (hn : S.log.length ≤ 1099511627775)
    (hRt : ∀ w, Calls Tryz.prog 235 #[.agg #[.int .i64 3, .int .i64 wk, .int .i64 1, .int .i64 0, .int .i64 0, .int .i64 n, .int .i64 g, .int .i64 T, .int .i64 0, .int .i64 0, .bool false, .int .i64 er]] w fun e w' => e = .returned (.bool true) ∧ Below w.heap.size w w') :
    Calls Tryz.prog 184 #[.pointer (some ⟨jb, 0, none⟩), .agg #[.int .i64 n, .int .i64 g], .int .i64 T, .int .i64 er] w fun e w' => ∃ L', e = .returned (.tuple #[]) ∧ Noted E L S w (startPoint wk n g T er) L' w' := by
  have henv : Env L w [(jb, [.pointer (some ⟨E.k, 0, none⟩), .int .i64 wk])] := fun p hp => by
    obtain rfl := List.mem_singleton.1 hp
    obtain ⟨a, b, c⟩ := henv _ (List.mem_singleton.2 rfl)
    refine ⟨a, b, fun i v hi => c i v ?_⟩
    match i, hi with
    | 0, hi => exact hi
    | 1, hi => exact hi
    | _ + 2, hi => simp at hi
  have HSH := Go.Lib.hid (Shr.refl L w)
  have HBK := Go.Lib.hid (Below.refl w.heap.size w)
  have HD := Go.Lib.hid (Did.refl 0 L w)
  have HG := Go.Lib.hid hg
  have HE := Go.Lib.hid henv
  clear hg henv HSH HBK
  have hb0 : Below w.heap.size w (w.alloc (.cells #[.int .i64 n, .int .i64 g] 46)) := ((Below.refl _ _).alloc (Nat.le_refl _) _)
  have HE0 : Hid (Env L (w.alloc (.cells #[.int .i64 n, .int .i64 g] 46)) [(w.heap.size, [.int .i64 n, .int .i64 g]), (jb, [.pointer (some ⟨E.k, 0, none⟩), .int .i64 wk])]) := Go.Lib.hid (Env.alloc_at HE.out (fun b hb => HG.out.new b (by first | exact hb | (simp at hb; omega))) [.int .i64 n, .int .i64 g] 46 (b := w.heap.size) (by first | rfl | (simp; done) | (simp; omega)))
  replace HG := Go.Lib.hid (HG.out.below hb0)
  replace HE := Go.Lib.hid (HE0.out)
  replace HD := Go.Lib.hid (HD.out.trans (below_did hb0 0 L))
  have HBL := Go.Lib.hid hb0
  clear hb0 HE0
  have q0_0 : (w.alloc (.cells #[.int .i64 n, .int .i64 g] 46)).cell? ⟨w.heap.size, 0, none⟩ = some (.int .i64 n) := HE.out.cell 0 0 rfl rfl
  have q0_1 : (w.alloc (.cells #[.int .i64 n, .int .i64 g] 46)).cell? ⟨w.heap.size, 1, none⟩ = some (.int .i64 g) := HE.out.cell 0 1 rfl rfl
  have q1_0 : (w.alloc (.cells #[.int .i64 n, .int .i64 g] 46)).cell? ⟨jb, 0, none⟩ = some (.pointer (some ⟨E.k, 0, none⟩)) := HE.out.cell 1 0 rfl rfl
  have q1_1 : (w.alloc (.cells #[.int .i64 n, .int .i64 g] 46)).cell? ⟨jb, 1, none⟩ = some (.int .i64 wk) := HE.out.cell 1 1 rfl rfl
  go_enter Tryz.func184, Tryz.ntmps184
  go_wp2
  generalize (w.alloc (.cells #[.int .i64 n, .int .i64 g] 46)) = w0 at *
  have q0_0' : ∀ d os, (Sort.grow (redrawn w0 d) os).cell? ⟨w.heap.size, 0, none⟩ = some (.int .i64 n) := fun d os => cell_regrown q0_0 d os
  have q0_1' : ∀ d os, (Sort.grow (redrawn w0 d) os).cell? ⟨w.heap.size, 1, none⟩ = some (.int .i64 g) := fun d os => cell_regrown q0_1 d os
  have q1_0' : ∀ d os, (Sort.grow (redrawn w0 d) os).cell? ⟨jb, 0, none⟩ = some (.pointer (some ⟨E.k, 0, none⟩)) := fun d os => cell_regrown q1_0 d os
  have q1_1' : ∀ d os, (Sort.grow (redrawn w0 d) os).cell? ⟨jb, 1, none⟩ = some (.int .i64 wk) := fun d os => cell_regrown q1_1 d os
  refine wp_region_below_tail 12 (by kernel_rfl) (by kernel_rfl) ?_
  simp only [List.take_succ_cons, List.take_zero, List.drop_succ_cons, List.drop_zero]
  repeat (go_big_quiet_step (first
    | fail))
  refine wpQuiet_nil ?_
  intro w1 hw'
  obtain ⟨p, rfl⟩ := hw'
  have hb := below_regrown w0 p.d p.os
  clear q0_0' q0_1' q1_0' q1_1' q0_0 q0_1 q1_0 q1_1
  generalize Sort.grow (redrawn w0 p.d) p.os = w1 at *
  replace HG := Go.Lib.hid (HG.out.below hb)
  replace HE := Go.Lib.hid (HE.out.ext (below_ext hb 0 L))
  replace HD := Go.Lib.hid (HD.out.trans (below_did hb 0 L))
  replace HBL := Go.Lib.hid (HBL.out.trans (hb.mono HBL.out.size))
  clear hb
  have q0_0 : w1.cell? ⟨w.heap.size, 0, none⟩ = some (.int .i64 n) := HE.out.cell 0 0 rfl rfl
  have q0_1 : w1.cell? ⟨w.heap.size, 1, none⟩ = some (.int .i64 g) := HE.out.cell 0 1 rfl rfl
  have q1_0 : w1.cell? ⟨jb, 0, none⟩ = some (.pointer (some ⟨E.k, 0, none⟩)) := HE.out.cell 1 0 rfl rfl
  have q1_1 : w1.cell? ⟨jb, 1, none⟩ = some (.int .i64 wk) := HE.out.cell 1 1 rfl rfl
  go_wp2_with fail
  refine (core_note_any HG.out hn 3 wk 1 0 0 n g T 0 0 er false hRt).mono ?_
  rintro e w9 ⟨L9, rfl, hno⟩
  have HNO := Go.Lib.hid hno
  clear hno
  go_wp2
  go_end0
  exact ⟨L9, rfl, HNO.out.of_below HBL.out⟩
set_option maxHeartbeats 2000000 in
theorem st_fail (hR : RMono (prApp E.cf R0)) {m : Nat} {wk ticks shard user : Int} {vk : Value} {k : PR ρ} {L : Lab} {w : World} {S : St} {jb : Nat} {er : Int} (hg : Good E L S w) (henv : Env L w [(jb, [.pointer (some ⟨E.k, 0, none⟩), .int .i64 wk, .int .i64 ticks, .int .i64 shard, .int .i64 user, vk])]) (hk : ConSim E.cf (prApp E.cf R0) E t isHe m L w vk (.ret k)) (hw : 0 ≤ wk) (he : 0 < er ∧ er ≤ 100) (hbd : Bd (prApp E.cf R0 k (.he 0 0 er) (S.note (startPoint wk 0 0 0 er))).1) :
    Calls Tryz.prog 90 #[.pointer (some ⟨jb, 0, none⟩), .int .i64 er] w (Post E.cf (prApp E.cf R0) E t m L w (prApp E.cf R0 k (.he 0 0 er) (S.note (startPoint wk 0 0 0 er)))) := by
  have hn := (Bd.of_mono hR hbd).of_note
  have HD := Go.Lib.hid (Did.refl t L w)
  have HG := Go.Lib.hid hg
  have HE := Go.Lib.hid henv
  obtain ⟨ghk, chk, hvhk, hgfhk, _⟩ := id hk
  subst hvhk
  have henhk : ∀ (args : Array Value) (w : World), (callFunc ghk args).run Tryz.prog w = .ok (.enter ghk args) w := hgfhk
  have Hhk := Go.Lib.hid hk
  clear hg henv hk hgfhk
  have q0_0 : w.cell? ⟨jb, 0, none⟩ = some (.pointer (some ⟨E.k, 0, none⟩)) := HE.out.cell 0 0 rfl rfl
  have q0_1 : w.cell? ⟨jb, 1, none⟩ = some (.int .i64 wk) := HE.out.cell 0 1 rfl rfl
  have q0_2 : w.cell? ⟨jb, 2, none⟩ = some (.int .i64 ticks) := HE.out.cell 0 2 rfl rfl
  have q0_3 : w.cell? ⟨jb, 3, none⟩ = some (.int .i64 shard) := HE.out.cell 0 3 rfl rfl
  have q0_4 : w.cell? ⟨jb, 4, none⟩ = some (.int .i64 user) := HE.out.cell 0 4 rfl rfl
  have q0_5 : w.cell? ⟨jb, 5, none⟩ = some (.func (.func ghk) #[] chk) := HE.out.cell 0 5 rfl rfl
  go_enter Tryz.func90, Tryz.ntmps90
  go_wp2_with fail
  refine (st_point HG.out HE.out hn (fun w => start_rightE wk er hw he.1 w)).mono ?_
  rintro e w1 ⟨L1, rfl, hno⟩
  clear q0_0 q0_1 q0_2 q0_3 q0_4 q0_5
  replace HG := Go.Lib.hid (hno.good)
  replace HE := Go.Lib.hid (HE.out.ext (hno.shr.ext t))
  replace Hhk := Go.Lib.hid (ConSim.ext E.cf (prApp E.cf R0) E t Hhk.out (hno.shr.ext t))
  replace HD := Go.Lib.hid (HD.out.trans (hno.shr.did t))
  clear hno
  have q0_0 : w1.cell? ⟨jb, 0, none⟩ = some (.pointer (some ⟨E.k, 0, none⟩)) := HE.out.cell 0 0 rfl rfl
  have q0_1 : w1.cell? ⟨jb, 1, none⟩ = some (.int .i64 wk) := HE.out.cell 0 1 rfl rfl
  have q0_2 : w1.cell? ⟨jb, 2, none⟩ = some (.int .i64 ticks) := HE.out.cell 0 2 rfl rfl
  have q0_3 : w1.cell? ⟨jb, 3, none⟩ = some (.int .i64 shard) := HE.out.cell 0 3 rfl rfl
  have q0_4 : w1.cell? ⟨jb, 4, none⟩ = some (.int .i64 user) := HE.out.cell 0 4 rfl rfl
  have q0_5 : w1.cell? ⟨jb, 5, none⟩ = some (.func (.func ghk) #[] chk) := HE.out.cell 0 5 rfl rfl
  have HC : Hid (Calls Tryz.prog ghk ((Arg.vals (.he 0 0 er)) ++ chk) w1 (Post E.cf (prApp E.cf R0) E t m L1 w1 (prApp E.cf R0 k (.he 0 0 er) (S.note (startPoint wk 0 0 0 er))))) := Go.Lib.hid (Hhk.out.call (a := .he 0 0 er) ⟨by decide, by decide, by omega, he.2⟩ HG.out hbd)
  clear hbd
  generalize prApp E.cf R0 k (.he 0 0 er) (S.note (startPoint wk 0 0 0 er)) = rr at *
  go_wp2_with (go_at_fn ghk; refine (HC.out).mono ?_; rintro e w9 ⟨v2, L9, rfl, hd2, hg2, hc2⟩)
  go_ret
  exact ⟨v2, L9, rfl, HD.out.trans hd2, hg2, hc2⟩
theorem arm_cells {L : Lab} {w : World} {S : St} (hg : Good E L S w) : ∀ W, Below w.heap.size w W → Calls Tryz.prog 44 #[.pointer (some ⟨E.k, 0, none⟩)] W fun e w' => e = .returned (.pointer (some ⟨E.a, 0, none⟩)) ∧ Below W.heap.size W w' :=
  fun W hW => (core_cells (hg.below hW)).mono fun _ _ h => ⟨h.1, h.2 ▸ Below.refl _ _⟩
theorem arm_plan {L : Lab} {w : World} {S : St} (hg : Good E L S w) : ∀ W, Below w.heap.size w W → Calls Tryz.prog 47 #[.pointer (some ⟨E.k, 0, none⟩)] W fun e w' => e = .returned (.pointer (some ⟨E.p, 0, none⟩)) ∧ Below W.heap.size W w' :=
  fun W hW => (core_plan (hg.below hW)).mono fun _ _ h => ⟨h.1, h.2 ▸ Below.refl _ _⟩
theorem arm_state {L : Lab} {w : World} {S : St} (hg : Good E L S w) (n : Int) : ∀ W, Below w.heap.size w W → Calls Tryz.prog 139 #[.pointer (some ⟨E.p, 0, none⟩), .int .i64 n] W fun e w' => e = .returned (.int .i64 (E.cf.state n)) ∧ Below W.heap.size W w' :=
  fun W hW => (plan_State hg.ok E.p n W (hg.below hW).pl).mono fun _ _ h => h.below
theorem arm_user {L : Lab} {w : World} {S : St} (hg : Good E L S w) (n : Int) : ∀ W, Below w.heap.size w W → Calls Tryz.prog 96 #[.pointer (some ⟨E.p, 0, none⟩), .int .i64 n] W fun e w' => e = .returned (.int .i64 (E.cf.user n)) ∧ Below W.heap.size W w' :=
  fun W hW => (plan_User hg.ok E.p n W (hg.below hW).pl).mono fun _ _ h => h.below
theorem arm_box {L : Lab} {w : World} {S : St} (hg : Good E L S w) (s : Int) : ∀ W, Below w.heap.size w W → Calls Tryz.prog 30 #[.pointer (some ⟨E.k, 0, none⟩), .int .i64 s] W fun e w' => e = .returned (boxVal E s) ∧ Below W.heap.size W w' :=
  fun W hW => core_box (hg.below hW) s
theorem arm_nodes {L : Lab} {w : World} {S : St} (hg : Good E L S w) : ∀ W, Below w.heap.size w W → Calls Tryz.prog 57 #[.pointer (some ⟨E.k, 0, none⟩)] W fun e w' => e = .returned (nodesVal E) ∧ Below W.heap.size W w' :=
  fun W hW => core_Nodes (hg.below hW)
set_option maxHeartbeats 2000000 in
theorem st5_call (hR : RMono (prApp E.cf R0)) {m : Nat} {wk ticks shard user : Int} {vk : Value} {k : PR ρ} {L : Lab} {w : World} {S : St} {jb : Nat} {bj : Nat} (hg : Good E L S w) (henv : Env L w [(bj, [.pointer (some ⟨jb, 0, none⟩)]), (jb, [.pointer (some ⟨E.k, 0, none⟩), .int .i64 wk, .int .i64 ticks, .int .i64 shard, .int .i64 user, vk])]) (hk : ConSim E.cf (prApp E.cf R0) E t isHe m L w vk (.ret k)) (hbd : Bd (prApp E.cf R0 k (.he 0 0 3) S).1) :
    Calls Tryz.prog 238 #[.pointer (some ⟨bj, 0, none⟩)] w (Post E.cf (prApp E.cf R0) E t m L w (prApp E.cf R0 k (.he 0 0 3) S)) := by
  have HD := Go.Lib.hid (Did.refl t L w)
  have HG := Go.Lib.hid hg
  have HE := Go.Lib.hid henv
  obtain ⟨ghk, chk, hvhk, hgfhk, _⟩ := id hk
  subst hvhk
  have henhk : ∀ (args : Array Value) (w : World), (callFunc ghk args).run Tryz.prog w = .ok (.enter ghk args) w := hgfhk
  have Hhk := Go.Lib.hid hk
  clear hg henv hk hgfhk
  have q0_0 : w.cell? ⟨bj, 0, none⟩ = some (.pointer (some ⟨jb, 0, none⟩)) := HE.out.cell 0 0 rfl rfl
  have q1_0 : w.cell? ⟨jb, 0, none⟩ = some (.pointer (some ⟨E.k, 0, none⟩)) := HE.out.cell 1 0 rfl rfl
  have q1_1 : w.cell? ⟨jb, 1, none⟩ = some (.int .i64 wk) := HE.out.cell 1 1 rfl rfl
  have q1_2 : w.cell? ⟨jb, 2, none⟩ = some (.int .i64 ticks) := HE.out.cell 1 2 rfl rfl
  have q1_3 : w.cell? ⟨jb, 3, none⟩ = some (.int .i64 shard) := HE.out.cell 1 3 rfl rfl
  have q1_4 : w.cell? ⟨jb, 4, none⟩ = some (.int .i64 user) := HE.out.cell 1 4 rfl rfl
  have q1_5 : w.cell? ⟨jb, 5, none⟩ = some (.func (.func ghk) #[] chk) := HE.out.cell 1 5 rfl rfl
  go_enter Tryz.func238, Tryz.ntmps238
  skip
  have HC : Hid (Calls Tryz.prog ghk ((Arg.vals (.he 0 0 3)) ++ chk) w (Post E.cf (prApp E.cf R0) E t m L w (prApp E.cf R0 k (.he 0 0 3) (S)))) := Go.Lib.hid (Hhk.out.call (a := .he 0 0 3) ⟨by decide, by decide, by decide⟩ HG.out hbd)
  clear hbd
  generalize prApp E.cf R0 k (.he 0 0 3) (S) = rr at *
  go_wp2_with (go_at_fn ghk; refine (HC.out).mono ?_; rintro e w9 ⟨v2, L9, rfl, hd2, hg2, hc2⟩)
  go_ret
  exact ⟨v2, L9, rfl, HD.out.trans hd2, hg2, hc2⟩
theorem st5_con (hR : RMono (prApp E.cf R0)) {m : Nat} {wk ticks shard user : Int} {vk : Value} {k : PR ρ} {L : Lab} {w : World} {jb : Nat} {bj : Nat} (henv : Env L w [(bj, [.pointer (some ⟨jb, 0, none⟩)]), (jb, [.pointer (some ⟨E.k, 0, none⟩), .int .i64 wk, .int .i64 ticks, .int .i64 shard, .int .i64 user, vk])]) (hk : ConSim E.cf (prApp E.cf R0) E t isHe m L w vk (.ret k))  :
    ConSim E.cf (prApp E.cf R0) E t isU m L w (.func (.func 238) #[] #[.pointer (some ⟨bj, 0, none⟩)]) (.ret (.st5 k)) := by
  refine ⟨_, _, rfl, enters_of Tryz.func238 (by kernel_rfl) rfl, ?_⟩
  intro a L' w' S ha hx hg hbd
  cases a with
  | u =>
    show Calls _ _ #[_] _ _
    exact st5_call hR hg (henv.ext hx) (ConSim.ext E.cf (prApp E.cf R0) E t hk hx) hbd
  | _ => exact absurd ha (by simp [isU])
set_option maxHeartbeats 2000000 in
theorem st9_call (hR : RMono (prApp E.cf R0)) {m : Nat} {wk ticks shard user : Int} {vk : Value} {k : PR ρ} {L : Lab} {w : World} {S : St} {jb : Nat} {bj bh : Nat} {n gen : Int} (hg : Good E L S w) (henv : Env L w [(bj, [.pointer (some ⟨jb, 0, none⟩)]), (bh, [.int .i64 n, .int .i64 gen]), (jb, [.pointer (some ⟨E.k, 0, none⟩), .int .i64 wk, .int .i64 ticks, .int .i64 shard, .int .i64 user, vk])]) (hk : ConSim E.cf (prApp E.cf R0) E t isHe m L w vk (.ret k)) (hnb : 0 ≤ n ∧ n ≤ 4294967294) (hgb : 0 ≤ gen ∧ gen ≤ 4294967295) (hbd : Bd (prApp E.cf R0 k (.he n gen 0) S).1) :
    Calls Tryz.prog 263 #[.pointer (some ⟨bj, 0, none⟩), .pointer (some ⟨bh, 0, none⟩)] w (Post E.cf (prApp E.cf R0) E t m L w (prApp E.cf R0 k (.he n gen 0) S)) := by
  have HD := Go.Lib.hid (Did.refl t L w)
  have HG := Go.Lib.hid hg
  have HE := Go.Lib.hid henv
  obtain ⟨ghk, chk, hvhk, hgfhk, _⟩ := id hk
  subst hvhk
  have henhk : ∀ (args : Array Value) (w : World), (callFunc ghk args).run Tryz.prog w = .ok (.enter ghk args) w := hgfhk
  have Hhk := Go.Lib.hid hk
  clear hg henv hk hgfhk
  have q0_0 : w.cell? ⟨bj, 0, none⟩ = some (.pointer (some ⟨jb, 0, none⟩)) := HE.out.cell 0 0 rfl rfl
  have q1_0 : w.cell? ⟨bh, 0, none⟩ = some (.int .i64 n) := HE.out.cell 1 0 rfl rfl
  have q1_1 : w.cell? ⟨bh, 1, none⟩ = some (.int .i64 gen) := HE.out.cell 1 1 rfl rfl
  have q2_0 : w.cell? ⟨jb, 0, none⟩ = some (.pointer (some ⟨E.k, 0, none⟩)) := HE.out.cell 2 0 rfl rfl
  have q2_1 : w.cell? ⟨jb, 1, none⟩ = some (.int .i64 wk) := HE.out.cell 2 1 rfl rfl
  have q2_2 : w.cell? ⟨jb, 2, none⟩ = some (.int .i64 ticks) := HE.out.cell 2 2 rfl rfl
  have q2_3 : w.cell? ⟨jb, 3, none⟩ = some (.int .i64 shard) := HE.out.cell 2 3 rfl rfl
  have q2_4 : w.cell? ⟨jb, 4, none⟩ = some (.int .i64 user) := HE.out.cell 2 4 rfl rfl
  have q2_5 : w.cell? ⟨jb, 5, none⟩ = some (.func (.func ghk) #[] chk) := HE.out.cell 2 5 rfl rfl
  go_enter Tryz.func263, Tryz.ntmps263
  go_wp2
  have q0_0' : ∀ d os, (Sort.grow (redrawn w d) os).cell? ⟨bj, 0, none⟩ = some (.pointer (some ⟨jb, 0, none⟩)) := fun d os => cell_regrown q0_0 d os
  have q1_0' : ∀ d os, (Sort.grow (redrawn w d) os).cell? ⟨bh, 0, none⟩ = some (.int .i64 n) := fun d os => cell_regrown q1_0 d os
  have q1_1' : ∀ d os, (Sort.grow (redrawn w d) os).cell? ⟨bh, 1, none⟩ = some (.int .i64 gen) := fun d os => cell_regrown q1_1 d os
  have q2_0' : ∀ d os, (Sort.grow (redrawn w d) os).cell? ⟨jb, 0, none⟩ = some (.pointer (some ⟨E.k, 0, none⟩)) := fun d os => cell_regrown q2_0 d os
  have q2_1' : ∀ d os, (Sort.grow (redrawn w d) os).cell? ⟨jb, 1, none⟩ = some (.int .i64 wk) := fun d os => cell_regrown q2_1 d os
  have q2_2' : ∀ d os, (Sort.grow (redrawn w d) os).cell? ⟨jb, 2, none⟩ = some (.int .i64 ticks) := fun d os => cell_regrown q2_2 d os
  have q2_3' : ∀ d os, (Sort.grow (redrawn w d) os).cell? ⟨jb, 3, none⟩ = some (.int .i64 shard) := fun d os => cell_regrown q2_3 d os
  have q2_4' : ∀ d os, (Sort.grow (redrawn w d) os).cell? ⟨jb, 4, none⟩ = some (.int .i64 user) := fun d os => cell_regrown q2_4 d os
  have q2_5' : ∀ d os, (Sort.grow (redrawn w d) os).cell? ⟨jb, 5, none⟩ = some (.func (.func ghk) #[] chk) := fun d os => cell_regrown q2_5 d os
  refine wp_region_below_tail 5 (by kernel_rfl) (by kernel_rfl) ?_
  simp only [List.take_succ_cons, List.take_zero, List.drop_succ_cons, List.drop_zero]
  repeat (go_big_quiet_step (first
    | fail))
  refine wpQuiet_nil ?_
  intro w1 hw'
  obtain ⟨p, rfl⟩ := hw'
  have hb := below_regrown w p.d p.os
  clear q0_0' q1_0' q1_1' q2_0' q2_1' q2_2' q2_3' q2_4' q2_5' q0_0 q1_0 q1_1 q2_0 q2_1 q2_2 q2_3 q2_4 q2_5
  generalize Sort.grow (redrawn w p.d) p.os = w1 at *
  replace HG := Go.Lib.hid (HG.out.below hb)
  replace HE := Go.Lib.hid (HE.out.ext (below_ext hb t L))
  replace Hhk := Go.Lib.hid (ConSim.ext E.cf (prApp E.cf R0) E t Hhk.out (below_ext hb t L))
  replace HD := Go.Lib.hid (HD.out.trans (below_did hb t L))
  clear hb
  have q0_0 : w1.cell? ⟨bj, 0, none⟩ = some (.pointer (some ⟨jb, 0, none⟩)) := HE.out.cell 0 0 rfl rfl
  have q1_0 : w1.cell? ⟨bh, 0, none⟩ = some (.int .i64 n) := HE.out.cell 1 0 rfl rfl
  have q1_1 : w1.cell? ⟨bh, 1, none⟩ = some (.int .i64 gen) := HE.out.cell 1 1 rfl rfl
  have q2_0 : w1.cell? ⟨jb, 0, none⟩ = some (.pointer (some ⟨E.k, 0, none⟩)) := HE.out.cell 2 0 rfl rfl
  have q2_1 : w1.cell? ⟨jb, 1, none⟩ = some (.int .i64 wk) := HE.out.cell 2 1 rfl rfl
  have q2_2 : w1.cell? ⟨jb, 2, none⟩ = some (.int .i64 ticks) := HE.out.cell 2 2 rfl rfl
  have q2_3 : w1.cell? ⟨jb, 3, none⟩ = some (.int .i64 shard) := HE.out.cell 2 3 rfl rfl
  have q2_4 : w1.cell? ⟨jb, 4, none⟩ = some (.int .i64 user) := HE.out.cell 2 4 rfl rfl
  have q2_5 : w1.cell? ⟨jb, 5, none⟩ = some (.func (.func ghk) #[] chk) := HE.out.cell 2 5 rfl rfl
  have HC : Hid (Calls Tryz.prog ghk ((Arg.vals (.he n gen 0)) ++ chk) w1 (Post E.cf (prApp E.cf R0) E t m L w1 (prApp E.cf R0 k (.he n gen 0) (S)))) := Go.Lib.hid (Hhk.out.call (a := .he n gen 0) ⟨hnb, hgb, by decide⟩ HG.out hbd)
  clear hbd
  generalize prApp E.cf R0 k (.he n gen 0) (S) = rr at *
  go_wp2_with (go_at_fn ghk; refine (HC.out).mono ?_; rintro e w9 ⟨v2, L9, rfl, hd2, hg2, hc2⟩)
  go_ret
  exact ⟨v2, L9, rfl, HD.out.trans hd2, hg2, hc2⟩
theorem st9_con (hR : RMono (prApp E.cf R0)) {m : Nat} {wk ticks shard user : Int} {vk : Value} {k : PR ρ} {L : Lab} {w : World} {jb : Nat} {bj bh : Nat} {n gen : Int} (henv : Env L w [(bj, [.pointer (some ⟨jb, 0, none⟩)]), (bh, [.int .i64 n, .int .i64 gen]), (jb, [.pointer (some ⟨E.k, 0, none⟩), .int .i64 wk, .int .i64 ticks, .int .i64 shard, .int .i64 user, vk])]) (hk : ConSim E.cf (prApp E.cf R0) E t isHe m L w vk (.ret k)) (hnb : 0 ≤ n ∧ n ≤ 4294967294) (hgb : 0 ≤ gen ∧ gen ≤ 4294967295) :
    ConSim E.cf (prApp E.cf R0) E t isU m L w (.func (.func 263) #[] #[.pointer (some ⟨bj, 0, none⟩), .pointer (some ⟨bh, 0, none⟩)]) (.ret (.st9 n gen k)) := by
  refine ⟨_, _, rfl, enters_of Tryz.func263 (by kernel_rfl) rfl, ?_⟩
  intro a L' w' S ha hx hg hbd
  cases a with
  | u =>
    show Calls _ _ #[_, _] _ _
    exact st9_call hR hg (henv.ext hx) (ConSim.ext E.cf (prApp E.cf R0) E t hk hx) hnb hgb hbd
  | _ => exact absurd ha (by simp [isU])
set_option maxHeartbeats 2000000 in
theorem st8_call (hR : RMono (prApp E.cf R0)) {m : Nat} {wk ticks shard user : Int} {vk : Value} {k : PR ρ} {L : Lab} {w : World} {S : St} {jb : Nat} {bj bh bd bt : Nat} {n gen deadline tk : Int} (hg : Good E L S w) (henv : Env L w [(bj, [.pointer (some ⟨jb, 0, none⟩)]), (bh, [.int .i64 n, .int .i64 gen]), (bd, [.int .i64 deadline]), (bt, [.int .i64 tk]), (jb, [.pointer (some ⟨E.k, 0, none⟩), .int .i64 wk, .int .i64 ticks, .int .i64 shard, .int .i64 user, vk])]) (hk : ConSim E.cf (prApp E.cf R0) E t isHe m L w vk (.ret k)) (hw : 0 ≤ wk) (hnb : 0 ≤ n ∧ n ≤ 4294967294) (hgb : 0 ≤ gen ∧ gen ≤ 4294967295) (hdb : 0 ≤ deadline ∧ deadline ≤ 1073741823) (hbd : Bd (S.note (startPoint wk n gen deadline 0))) :
    Calls Tryz.prog 262 #[.pointer (some ⟨bj, 0, none⟩), .pointer (some ⟨bh, 0, none⟩), .pointer (some ⟨bd, 0, none⟩), .pointer (some ⟨bt, 0, none⟩)] w (Post E.cf (prApp E.cf R0) E t m L w ((S.note (startPoint wk n gen deadline 0), some (putK E.cf shard tk (.st9 n gen k))))) := by
  have hn := hbd.of_note
  have HD := Go.Lib.hid (Did.refl t L w)
  have HG := Go.Lib.hid hg
  have HE := Go.Lib.hid henv
  obtain ⟨ghk, chk, hvhk, hgfhk, _⟩ := id hk
  subst hvhk
  have henhk : ∀ (args : Array Value) (w : World), (callFunc ghk args).run Tryz.prog w = .ok (.enter ghk args) w := hgfhk
  have Hhk := Go.Lib.hid hk
  clear hg henv hk hgfhk
  have q0_0 : w.cell? ⟨bj, 0, none⟩ = some (.pointer (some ⟨jb, 0, none⟩)) := HE.out.cell 0 0 rfl rfl
  have q1_0 : w.cell? ⟨bh, 0, none⟩ = some (.int .i64 n) := HE.out.cell 1 0 rfl rfl
  have q1_1 : w.cell? ⟨bh, 1, none⟩ = some (.int .i64 gen) := HE.out.cell 1 1 rfl rfl
  have q2_0 : w.cell? ⟨bd, 0, none⟩ = some (.int .i64 deadline) := HE.out.cell 2 0 rfl rfl
  have q3_0 : w.cell? ⟨bt, 0, none⟩ = some (.int .i64 tk) := HE.out.cell 3 0 rfl rfl
  have q4_0 : w.cell? ⟨jb, 0, none⟩ = some (.pointer (some ⟨E.k, 0, none⟩)) := HE.out.cell 4 0 rfl rfl
  have q4_1 : w.cell? ⟨jb, 1, none⟩ = some (.int .i64 wk) := HE.out.cell 4 1 rfl rfl
  have q4_2 : w.cell? ⟨jb, 2, none⟩ = some (.int .i64 ticks) := HE.out.cell 4 2 rfl rfl
  have q4_3 : w.cell? ⟨jb, 3, none⟩ = some (.int .i64 shard) := HE.out.cell 4 3 rfl rfl
  have q4_4 : w.cell? ⟨jb, 4, none⟩ = some (.int .i64 user) := HE.out.cell 4 4 rfl rfl
  have q4_5 : w.cell? ⟨jb, 5, none⟩ = some (.func (.func ghk) #[] chk) := HE.out.cell 4 5 rfl rfl
  go_enter Tryz.func262, Tryz.ntmps262
  go_wp2_with fail
  refine (st_point HG.out (HE.out.sub (env' := [(jb, [.pointer (some ⟨E.k, 0, none⟩), .int .i64 wk, .int .i64 ticks, .int .i64 shard, .int .i64 user, .func (.func ghk) #[] chk])]) (by simp)) hn (fun w => start_right0 wk n gen deadline hw hnb.1 hgb.1 hdb.1 w)).mono ?_
  rintro e w1 ⟨L1, rfl, hno⟩
  clear q0_0 q1_0 q1_1 q2_0 q3_0 q4_0 q4_1 q4_2 q4_3 q4_4 q4_5
  replace HG := Go.Lib.hid (hno.good)
  replace HE := Go.Lib.hid (HE.out.ext (hno.shr.ext t))
  replace Hhk := Go.Lib.hid (ConSim.ext E.cf (prApp E.cf R0) E t Hhk.out (hno.shr.ext t))
  replace HD := Go.Lib.hid (HD.out.trans (hno.shr.did t))
  clear hno
  have q0_0 : w1.cell? ⟨bj, 0, none⟩ = some (.pointer (some ⟨jb, 0, none⟩)) := HE.out.cell 0 0 rfl rfl
  have q1_0 : w1.cell? ⟨bh, 0, none⟩ = some (.int .i64 n) := HE.out.cell 1 0 rfl rfl
  have q1_1 : w1.cell? ⟨bh, 1, none⟩ = some (.int .i64 gen) := HE.out.cell 1 1 rfl rfl
  have q2_0 : w1.cell? ⟨bd, 0, none⟩ = some (.int .i64 deadline) := HE.out.cell 2 0 rfl rfl
  have q3_0 : w1.cell? ⟨bt, 0, none⟩ = some (.int .i64 tk) := HE.out.cell 3 0 rfl rfl
  have q4_0 : w1.cell? ⟨jb, 0, none⟩ = some (.pointer (some ⟨E.k, 0, none⟩)) := HE.out.cell 4 0 rfl rfl
  have q4_1 : w1.cell? ⟨jb, 1, none⟩ = some (.int .i64 wk) := HE.out.cell 4 1 rfl rfl
  have q4_2 : w1.cell? ⟨jb, 2, none⟩ = some (.int .i64 ticks) := HE.out.cell 4 2 rfl rfl
  have q4_3 : w1.cell? ⟨jb, 3, none⟩ = some (.int .i64 shard) := HE.out.cell 4 3 rfl rfl
  have q4_4 : w1.cell? ⟨jb, 4, none⟩ = some (.int .i64 user) := HE.out.cell 4 4 rfl rfl
  have q4_5 : w1.cell? ⟨jb, 5, none⟩ = some (.func (.func ghk) #[] chk) := HE.out.cell 4 5 rfl rfl
  have HBX := Go.Lib.hid (arm_box HG.out shard)
  go_wp2
  have q0_0' : ∀ d os, (Sort.grow (redrawn w1 d) os).cell? ⟨bj, 0, none⟩ = some (.pointer (some ⟨jb, 0, none⟩)) := fun d os => cell_regrown q0_0 d os
  have q1_0' : ∀ d os, (Sort.grow (redrawn w1 d) os).cell? ⟨bh, 0, none⟩ = some (.int .i64 n) := fun d os => cell_regrown q1_0 d os
  have q1_1' : ∀ d os, (Sort.grow (redrawn w1 d) os).cell? ⟨bh, 1, none⟩ = some (.int .i64 gen) := fun d os => cell_regrown q1_1 d os
  have q2_0' : ∀ d os, (Sort.grow (redrawn w1 d) os).cell? ⟨bd, 0, none⟩ = some (.int .i64 deadline) := fun d os => cell_regrown q2_0 d os
  have q3_0' : ∀ d os, (Sort.grow (redrawn w1 d) os).cell? ⟨bt, 0, none⟩ = some (.int .i64 tk) := fun d os => cell_regrown q3_0 d os
  have q4_0' : ∀ d os, (Sort.grow (redrawn w1 d) os).cell? ⟨jb, 0, none⟩ = some (.pointer (some ⟨E.k, 0, none⟩)) := fun d os => cell_regrown q4_0 d os
  have q4_1' : ∀ d os, (Sort.grow (redrawn w1 d) os).cell? ⟨jb, 1, none⟩ = some (.int .i64 wk) := fun d os => cell_regrown q4_1 d os
  have q4_2' : ∀ d os, (Sort.grow (redrawn w1 d) os).cell? ⟨jb, 2, none⟩ = some (.int .i64 ticks) := fun d os => cell_regrown q4_2 d os
  have q4_3' : ∀ d os, (Sort.grow (redrawn w1 d) os).cell? ⟨jb, 3, none⟩ = some (.int .i64 shard) := fun d os => cell_regrown q4_3 d os
  have q4_4' : ∀ d os, (Sort.grow (redrawn w1 d) os).cell? ⟨jb, 4, none⟩ = some (.int .i64 user) := fun d os => cell_regrown q4_4 d os
  have q4_5' : ∀ d os, (Sort.grow (redrawn w1 d) os).cell? ⟨jb, 5, none⟩ = some (.func (.func ghk) #[] chk) := fun d os => cell_regrown q4_5 d os
  refine wp_region_below_tail 11 (by kernel_rfl) (by kernel_rfl) ?_
  simp only [List.take_succ_cons, List.take_zero, List.drop_succ_cons, List.drop_zero]
  repeat (go_big_quiet_step (first
    | (go_at_call 30; rename_i p; exact Calls.regrown_of (HBX.out _ (below_regrown w1 p.d p.os)))))
  refine wpQuiet_nil ?_
  intro w2 hw'
  obtain ⟨p, rfl⟩ := hw'
  have hb := below_regrown w1 p.d p.os
  clear q0_0' q1_0' q1_1' q2_0' q3_0' q4_0' q4_1' q4_2' q4_3' q4_4' q4_5' q0_0 q1_0 q1_1 q2_0 q3_0 q4_0 q4_1 q4_2 q4_3 q4_4 q4_5
  generalize Sort.grow (redrawn w1 p.d) p.os = w2 at *
  replace HG := Go.Lib.hid (HG.out.below hb)
  replace HE := Go.Lib.hid (HE.out.ext (below_ext hb t L1))
  replace Hhk := Go.Lib.hid (ConSim.ext E.cf (prApp E.cf R0) E t Hhk.out (below_ext hb t L1))
  replace HD := Go.Lib.hid (HD.out.trans (below_did hb t L1))
  clear hb
  have q0_0 : w2.cell? ⟨bj, 0, none⟩ = some (.pointer (some ⟨jb, 0, none⟩)) := HE.out.cell 0 0 rfl rfl
  have q1_0 : w2.cell? ⟨bh, 0, none⟩ = some (.int .i64 n) := HE.out.cell 1 0 rfl rfl
  have q1_1 : w2.cell? ⟨bh, 1, none⟩ = some (.int .i64 gen) := HE.out.cell 1 1 rfl rfl
  have q2_0 : w2.cell? ⟨bd, 0, none⟩ = some (.int .i64 deadline) := HE.out.cell 2 0 rfl rfl
  have q3_0 : w2.cell? ⟨bt, 0, none⟩ = some (.int .i64 tk) := HE.out.cell 3 0 rfl rfl
  have q4_0 : w2.cell? ⟨jb, 0, none⟩ = some (.pointer (some ⟨E.k, 0, none⟩)) := HE.out.cell 4 0 rfl rfl
  have q4_1 : w2.cell? ⟨jb, 1, none⟩ = some (.int .i64 wk) := HE.out.cell 4 1 rfl rfl
  have q4_2 : w2.cell? ⟨jb, 2, none⟩ = some (.int .i64 ticks) := HE.out.cell 4 2 rfl rfl
  have q4_3 : w2.cell? ⟨jb, 3, none⟩ = some (.int .i64 shard) := HE.out.cell 4 3 rfl rfl
  have q4_4 : w2.cell? ⟨jb, 4, none⟩ = some (.int .i64 user) := HE.out.cell 4 4 rfl rfl
  have q4_5 : w2.cell? ⟨jb, 5, none⟩ = some (.func (.func ghk) #[] chk) := HE.out.cell 4 5 rfl rfl
  have HT := Go.Lib.hid (put_at hR (s := shard) (tk := tk) HG.out (st9_con (bj := bj) (bh := bh) hR (HE.out.sub (env' := [(bj, [.pointer (some ⟨jb, 0, none⟩)]), (bh, [.int .i64 n, .int .i64 gen]), (jb, [.pointer (some ⟨E.k, 0, none⟩), .int .i64 wk, .int .i64 ticks, .int .i64 shard, .int .i64 user, .func (.func ghk) #[] chk])]) (by simp)) Hhk.out hnb hgb))
  go_wp2_with fail
  refine (HT.out).mono ?_
  rintro e w9 ⟨v2, L9, rfl, hd2, hg2, hc2⟩
  go_wp2
  go_ret
  exact ⟨v2, L9, rfl, HD.out.trans hd2, hg2, hc2⟩
theorem st8_con (hR : RMono (prApp E.cf R0)) {m : Nat} {wk ticks shard user : Int} {vk : Value} {k : PR ρ} {L : Lab} {w : World} {jb : Nat} {bj bh bd bt : Nat} {n gen deadline tk : Int} (henv : Env L w [(bj, [.pointer (some ⟨jb, 0, none⟩)]), (bh, [.int .i64 n, .int .i64 gen]), (bd, [.int .i64 deadline]), (bt, [.int .i64 tk]), (jb, [.pointer (some ⟨E.k, 0, none⟩), .int .i64 wk, .int .i64 ticks, .int .i64 shard, .int .i64 user, vk])]) (hk : ConSim E.cf (prApp E.cf R0) E t isHe m L w vk (.ret k)) (hw : 0 ≤ wk) (hnb : 0 ≤ n ∧ n ≤ 4294967294) (hgb : 0 ≤ gen ∧ gen ≤ 4294967295) (hdb : 0 ≤ deadline ∧ deadline ≤ 1073741823) :
    ConSim E.cf (prApp E.cf R0) E t isU m L w (.func (.func 262) #[] #[.pointer (some ⟨bj, 0, none⟩), .pointer (some ⟨bh, 0, none⟩), .pointer (some ⟨bd, 0, none⟩), .pointer (some ⟨bt, 0, none⟩)]) (.ret (.st8 wk shard deadline n gen tk k)) := by
  refine ⟨_, _, rfl, enters_of Tryz.func262 (by kernel_rfl) rfl, ?_⟩
  intro a L' w' S ha hx hg hbd
  cases a with
  | u =>
    show Calls _ _ #[_, _, _, _] _ _
    exact st8_call hR hg (henv.ext hx) (ConSim.ext E.cf (prApp E.cf R0) E t hk hx) hw hnb hgb hdb hbd
  | _ => exact absurd ha (by simp [isU])
set_option maxHeartbeats 2000000 in
theorem st_arm (hR : RMono (prApp E.cf R0)) {m : Nat} {wk ticks shard user : Int} {vk : Value} {k : PR ρ} {L : Lab} {w : World} {S : St} {jb : Nat} {n gen deadline tk : Int} (hg : Good E L S w) (henv : Env L w [(jb, [.pointer (some ⟨E.k, 0, none⟩), .int .i64 wk, .int .i64 ticks, .int .i64 shard, .int .i64 user, vk])]) (hk : ConSim E.cf (prApp E.cf R0) E t isHe m L w vk (.ret k)) (hw : 0 ≤ wk) (hnb : 0 ≤ n ∧ n ≤ 4294967294) (hgb : 0 ≤ gen ∧ gen ≤ 4294967295) (hdb : 0 ≤ deadline ∧ deadline ≤ 1073741823) :
    Calls Tryz.prog 241 #[.pointer (some ⟨jb, 0, none⟩), .agg #[.int .i64 n, .int .i64 gen], .int .i64 tk, .int .i64 deadline] w (Post E.cf (prApp E.cf R0) E t m L w ((S, some (.store (E.cf.state n) (stateWord gen deadline 1) (.ret (.st8 wk shard deadline n gen tk k)))))) := by
  have HD := Go.Lib.hid (Did.refl t L w)
  have HG := Go.Lib.hid hg
  have HE := Go.Lib.hid henv
  obtain ⟨ghk, chk, hvhk, hgfhk, _⟩ := id hk
  subst hvhk
  have henhk : ∀ (args : Array Value) (w : World), (callFunc ghk args).run Tryz.prog w = .ok (.enter ghk args) w := hgfhk
  have Hhk := Go.Lib.hid hk
  clear hg henv hk hgfhk
  have hb0 : Below w.heap.size w ((((w.alloc (.cells #[.pointer (some ⟨jb, 0, none⟩)] 143)).alloc (.cells #[.int .i64 n, .int .i64 gen] 46)).alloc (.cells #[.int .i64 tk] 3)).alloc (.cells #[.int .i64 deadline] 3)) := (((((Below.refl _ _).alloc (Nat.le_refl _) _).alloc (by first | (simp; done) | (simp; omega)) _).alloc (by first | (simp; done) | (simp; omega)) _).alloc (by first | (simp; done) | (simp; omega)) _)
  have HE0 : Hid (Env L ((((w.alloc (.cells #[.pointer (some ⟨jb, 0, none⟩)] 143)).alloc (.cells #[.int .i64 n, .int .i64 gen] 46)).alloc (.cells #[.int .i64 tk] 3)).alloc (.cells #[.int .i64 deadline] 3)) [(w.heap.size + 1 + 1 + 1, [.int .i64 deadline]), (w.heap.size + 1 + 1, [.int .i64 tk]), (w.heap.size + 1, [.int .i64 n, .int .i64 gen]), (w.heap.size, [.pointer (some ⟨jb, 0, none⟩)]), (jb, [.pointer (some ⟨E.k, 0, none⟩), .int .i64 wk, .int .i64 ticks, .int .i64 shard, .int .i64 user, .func (.func ghk) #[] chk])]) := Go.Lib.hid (Env.alloc_at (Env.alloc_at (Env.alloc_at (Env.alloc_at HE.out (fun b hb => HG.out.new b (by first | exact hb | (simp at hb; omega))) [.pointer (some ⟨jb, 0, none⟩)] 143 (b := w.heap.size) (by first | rfl | (simp; done) | (simp; omega))) (fun b hb => HG.out.new b (by first | exact hb | (simp at hb; omega))) [.int .i64 n, .int .i64 gen] 46 (b := w.heap.size + 1) (by first | rfl | (simp; done) | (simp; omega))) (fun b hb => HG.out.new b (by first | exact hb | (simp at hb; omega))) [.int .i64 tk] 3 (b := w.heap.size + 1 + 1) (by first | rfl | (simp; done) | (simp; omega))) (fun b hb => HG.out.new b (by first | exact hb | (simp at hb; omega))) [.int .i64 deadline] 3 (b := w.heap.size + 1 + 1 + 1) (by first | rfl | (simp; done) | (simp; omega)))
  replace HG := Go.Lib.hid (HG.out.below hb0)
  replace HE := Go.Lib.hid (HE0.out)
  replace Hhk := Go.Lib.hid (ConSim.ext E.cf (prApp E.cf R0) E t Hhk.out (below_ext hb0 t L))
  replace HD := Go.Lib.hid (HD.out.trans (below_did hb0 t L))
  clear hb0 HE0
  have q0_0 : ((((w.alloc (.cells #[.pointer (some ⟨jb, 0, none⟩)] 143)).alloc (.cells #[.int .i64 n, .int .i64 gen] 46)).alloc (.cells #[.int .i64 tk] 3)).alloc (.cells #[.int .i64 deadline] 3)).cell? ⟨w.heap.size + 1 + 1 + 1, 0, none⟩ = some (.int .i64 deadline) := HE.out.cell 0 0 rfl rfl
  have q1_0 : ((((w.alloc (.cells #[.pointer (some ⟨jb, 0, none⟩)] 143)).alloc (.cells #[.int .i64 n, .int .i64 gen] 46)).alloc (.cells #[.int .i64 tk] 3)).alloc (.cells #[.int .i64 deadline] 3)).cell? ⟨w.heap.size + 1 + 1, 0, none⟩ = some (.int .i64 tk) := HE.out.cell 1 0 rfl rfl
  have q2_0 : ((((w.alloc (.cells #[.pointer (some ⟨jb, 0, none⟩)] 143)).alloc (.cells #[.int .i64 n, .int .i64 gen] 46)).alloc (.cells #[.int .i64 tk] 3)).alloc (.cells #[.int .i64 deadline] 3)).cell? ⟨w.heap.size + 1, 0, none⟩ = some (.int .i64 n) := HE.out.cell 2 0 rfl rfl
  have q2_1 : ((((w.alloc (.cells #[.pointer (some ⟨jb, 0, none⟩)] 143)).alloc (.cells #[.int .i64 n, .int .i64 gen] 46)).alloc (.cells #[.int .i64 tk] 3)).alloc (.cells #[.int .i64 deadline] 3)).cell? ⟨w.heap.size + 1, 1, none⟩ = some (.int .i64 gen) := HE.out.cell 2 1 rfl rfl
  have q3_0 : ((((w.alloc (.cells #[.pointer (some ⟨jb, 0, none⟩)] 143)).alloc (.cells #[.int .i64 n, .int .i64 gen] 46)).alloc (.cells #[.int .i64 tk] 3)).alloc (.cells #[.int .i64 deadline] 3)).cell? ⟨w.heap.size, 0, none⟩ = some (.pointer (some ⟨jb, 0, none⟩)) := HE.out.cell 3 0 rfl rfl
  have q4_0 : ((((w.alloc (.cells #[.pointer (some ⟨jb, 0, none⟩)] 143)).alloc (.cells #[.int .i64 n, .int .i64 gen] 46)).alloc (.cells #[.int .i64 tk] 3)).alloc (.cells #[.int .i64 deadline] 3)).cell? ⟨jb, 0, none⟩ = some (.pointer (some ⟨E.k, 0, none⟩)) := HE.out.cell 4 0 rfl rfl
  have q4_1 : ((((w.alloc (.cells #[.pointer (some ⟨jb, 0, none⟩)] 143)).alloc (.cells #[.int .i64 n, .int .i64 gen] 46)).alloc (.cells #[.int .i64 tk] 3)).alloc (.cells #[.int .i64 deadline] 3)).cell? ⟨jb, 1, none⟩ = some (.int .i64 wk) := HE.out.cell 4 1 rfl rfl
  have q4_2 : ((((w.alloc (.cells #[.pointer (some ⟨jb, 0, none⟩)] 143)).alloc (.cells #[.int .i64 n, .int .i64 gen] 46)).alloc (.cells #[.int .i64 tk] 3)).alloc (.cells #[.int .i64 deadline] 3)).cell? ⟨jb, 2, none⟩ = some (.int .i64 ticks) := HE.out.cell 4 2 rfl rfl
  have q4_3 : ((((w.alloc (.cells #[.pointer (some ⟨jb, 0, none⟩)] 143)).alloc (.cells #[.int .i64 n, .int .i64 gen] 46)).alloc (.cells #[.int .i64 tk] 3)).alloc (.cells #[.int .i64 deadline] 3)).cell? ⟨jb, 3, none⟩ = some (.int .i64 shard) := HE.out.cell 4 3 rfl rfl
  have q4_4 : ((((w.alloc (.cells #[.pointer (some ⟨jb, 0, none⟩)] 143)).alloc (.cells #[.int .i64 n, .int .i64 gen] 46)).alloc (.cells #[.int .i64 tk] 3)).alloc (.cells #[.int .i64 deadline] 3)).cell? ⟨jb, 4, none⟩ = some (.int .i64 user) := HE.out.cell 4 4 rfl rfl
  have q4_5 : ((((w.alloc (.cells #[.pointer (some ⟨jb, 0, none⟩)] 143)).alloc (.cells #[.int .i64 n, .int .i64 gen] 46)).alloc (.cells #[.int .i64 tk] 3)).alloc (.cells #[.int .i64 deadline] 3)).cell? ⟨jb, 5, none⟩ = some (.func (.func ghk) #[] chk) := HE.out.cell 4 5 rfl rfl
  go_enter Tryz.func241, Tryz.ntmps241
  go_wp2_with fail
  generalize ((((w.alloc (.cells #[.pointer (some ⟨jb, 0, none⟩)] 143)).alloc (.cells #[.int .i64 n, .int .i64 gen] 46)).alloc (.cells #[.int .i64 tk] 3)).alloc (.cells #[.int .i64 deadline] 3)) = w0 at *
  have HWD : Hid (∀ w, Calls Tryz.prog 165 #[.agg #[.int .i64 gen, .int .i64 deadline, .int .i64 1]] w fun e w' => e = .returned (.tuple #[.int .u64 (stateWord gen deadline 1 : Nat), .int .i64 (packed [32, 30, 2] [gen, deadline, 1]).2]) ∧ Below w.heap.size w w') := fun w => word_State gen deadline 1 w (by omega) (by omega) (by omega)
  generalize (packed [32, 30, 2] [gen, deadline, 1]).2 = e2 at *
  have HSL := Go.Lib.hid (stateWord_lt gen deadline 1)
  generalize stateWord gen deadline 1 = sw at *
  refine (HWD.out _).mono ?_
  rintro e w1 ⟨rfl, hb⟩
  clear q0_0 q1_0 q2_0 q2_1 q3_0 q4_0 q4_1 q4_2 q4_3 q4_4 q4_5
  replace HG := Go.Lib.hid (HG.out.below hb)
  replace HE := Go.Lib.hid (HE.out.ext (below_ext hb t L))
  replace Hhk := Go.Lib.hid (ConSim.ext E.cf (prApp E.cf R0) E t Hhk.out (below_ext hb t L))
  replace HD := Go.Lib.hid (HD.out.trans (below_did hb t L))
  clear hb
  have q0_0 : w1.cell? ⟨w.heap.size + 1 + 1 + 1, 0, none⟩ = some (.int .i64 deadline) := HE.out.cell 0 0 rfl rfl
  have q1_0 : w1.cell? ⟨w.heap.size + 1 + 1, 0, none⟩ = some (.int .i64 tk) := HE.out.cell 1 0 rfl rfl
  have q2_0 : w1.cell? ⟨w.heap.size + 1, 0, none⟩ = some (.int .i64 n) := HE.out.cell 2 0 rfl rfl
  have q2_1 : w1.cell? ⟨w.heap.size + 1, 1, none⟩ = some (.int .i64 gen) := HE.out.cell 2 1 rfl rfl
  have q3_0 : w1.cell? ⟨w.heap.size, 0, none⟩ = some (.pointer (some ⟨jb, 0, none⟩)) := HE.out.cell 3 0 rfl rfl
  have q4_0 : w1.cell? ⟨jb, 0, none⟩ = some (.pointer (some ⟨E.k, 0, none⟩)) := HE.out.cell 4 0 rfl rfl
  have q4_1 : w1.cell? ⟨jb, 1, none⟩ = some (.int .i64 wk) := HE.out.cell 4 1 rfl rfl
  have q4_2 : w1.cell? ⟨jb, 2, none⟩ = some (.int .i64 ticks) := HE.out.cell 4 2 rfl rfl
  have q4_3 : w1.cell? ⟨jb, 3, none⟩ = some (.int .i64 shard) := HE.out.cell 4 3 rfl rfl
  have q4_4 : w1.cell? ⟨jb, 4, none⟩ = some (.int .i64 user) := HE.out.cell 4 4 rfl rfl
  have q4_5 : w1.cell? ⟨jb, 5, none⟩ = some (.func (.func ghk) #[] chk) := HE.out.cell 4 5 rfl rfl
  have HCE := Go.Lib.hid (arm_cells HG.out)
  have HPL := Go.Lib.hid (arm_plan HG.out)
  have HSA := Go.Lib.hid (arm_state HG.out n)
  go_wp2
  have q0_0' : ∀ d os, (Sort.grow (redrawn w1 d) os).cell? ⟨w.heap.size + 1 + 1 + 1, 0, none⟩ = some (.int .i64 deadline) := fun d os => cell_regrown q0_0 d os
  have q1_0' : ∀ d os, (Sort.grow (redrawn w1 d) os).cell? ⟨w.heap.size + 1 + 1, 0, none⟩ = some (.int .i64 tk) := fun d os => cell_regrown q1_0 d os
  have q2_0' : ∀ d os, (Sort.grow (redrawn w1 d) os).cell? ⟨w.heap.size + 1, 0, none⟩ = some (.int .i64 n) := fun d os => cell_regrown q2_0 d os
  have q2_1' : ∀ d os, (Sort.grow (redrawn w1 d) os).cell? ⟨w.heap.size + 1, 1, none⟩ = some (.int .i64 gen) := fun d os => cell_regrown q2_1 d os
  have q3_0' : ∀ d os, (Sort.grow (redrawn w1 d) os).cell? ⟨w.heap.size, 0, none⟩ = some (.pointer (some ⟨jb, 0, none⟩)) := fun d os => cell_regrown q3_0 d os
  have q4_0' : ∀ d os, (Sort.grow (redrawn w1 d) os).cell? ⟨jb, 0, none⟩ = some (.pointer (some ⟨E.k, 0, none⟩)) := fun d os => cell_regrown q4_0 d os
  have q4_1' : ∀ d os, (Sort.grow (redrawn w1 d) os).cell? ⟨jb, 1, none⟩ = some (.int .i64 wk) := fun d os => cell_regrown q4_1 d os
  have q4_2' : ∀ d os, (Sort.grow (redrawn w1 d) os).cell? ⟨jb, 2, none⟩ = some (.int .i64 ticks) := fun d os => cell_regrown q4_2 d os
  have q4_3' : ∀ d os, (Sort.grow (redrawn w1 d) os).cell? ⟨jb, 3, none⟩ = some (.int .i64 shard) := fun d os => cell_regrown q4_3 d os
  have q4_4' : ∀ d os, (Sort.grow (redrawn w1 d) os).cell? ⟨jb, 4, none⟩ = some (.int .i64 user) := fun d os => cell_regrown q4_4 d os
  have q4_5' : ∀ d os, (Sort.grow (redrawn w1 d) os).cell? ⟨jb, 5, none⟩ = some (.func (.func ghk) #[] chk) := fun d os => cell_regrown q4_5 d os
  refine wp_region_below_tail 15 (by kernel_rfl) (by kernel_rfl) ?_
  simp only [List.take_succ_cons, List.take_zero, List.drop_succ_cons, List.drop_zero]
  repeat (go_big_quiet_step (first
    | (go_at_call 44; rename_i p; exact Calls.regrown_of (HCE.out _ (below_regrown w1 p.d p.os)))
    | (go_at_call 47; rename_i p; exact Calls.regrown_of (HPL.out _ (below_regrown w1 p.d p.os)))
    | (go_at_call 139; rename_i p; exact Calls.regrown_of (HSA.out _ (below_regrown w1 p.d p.os)))))
  refine wpQuiet_nil ?_
  intro w2 hw'
  obtain ⟨p, rfl⟩ := hw'
  have hb := below_regrown w1 p.d p.os
  clear q0_0' q1_0' q2_0' q2_1' q3_0' q4_0' q4_1' q4_2' q4_3' q4_4' q4_5' q0_0 q1_0 q2_0 q2_1 q3_0 q4_0 q4_1 q4_2 q4_3 q4_4 q4_5
  generalize Sort.grow (redrawn w1 p.d) p.os = w2 at *
  replace HG := Go.Lib.hid (HG.out.below hb)
  replace HE := Go.Lib.hid (HE.out.ext (below_ext hb t L))
  replace Hhk := Go.Lib.hid (ConSim.ext E.cf (prApp E.cf R0) E t Hhk.out (below_ext hb t L))
  replace HD := Go.Lib.hid (HD.out.trans (below_did hb t L))
  clear hb
  have q0_0 : w2.cell? ⟨w.heap.size + 1 + 1 + 1, 0, none⟩ = some (.int .i64 deadline) := HE.out.cell 0 0 rfl rfl
  have q1_0 : w2.cell? ⟨w.heap.size + 1 + 1, 0, none⟩ = some (.int .i64 tk) := HE.out.cell 1 0 rfl rfl
  have q2_0 : w2.cell? ⟨w.heap.size + 1, 0, none⟩ = some (.int .i64 n) := HE.out.cell 2 0 rfl rfl
  have q2_1 : w2.cell? ⟨w.heap.size + 1, 1, none⟩ = some (.int .i64 gen) := HE.out.cell 2 1 rfl rfl
  have q3_0 : w2.cell? ⟨w.heap.size, 0, none⟩ = some (.pointer (some ⟨jb, 0, none⟩)) := HE.out.cell 3 0 rfl rfl
  have q4_0 : w2.cell? ⟨jb, 0, none⟩ = some (.pointer (some ⟨E.k, 0, none⟩)) := HE.out.cell 4 0 rfl rfl
  have q4_1 : w2.cell? ⟨jb, 1, none⟩ = some (.int .i64 wk) := HE.out.cell 4 1 rfl rfl
  have q4_2 : w2.cell? ⟨jb, 2, none⟩ = some (.int .i64 ticks) := HE.out.cell 4 2 rfl rfl
  have q4_3 : w2.cell? ⟨jb, 3, none⟩ = some (.int .i64 shard) := HE.out.cell 4 3 rfl rfl
  have q4_4 : w2.cell? ⟨jb, 4, none⟩ = some (.int .i64 user) := HE.out.cell 4 4 rfl rfl
  have q4_5 : w2.cell? ⟨jb, 5, none⟩ = some (.func (.func ghk) #[] chk) := HE.out.cell 4 5 rfl rfl
  have HT := Go.Lib.hid (store_at hR (i := E.cf.state n) HSL.out HG.out (st8_con (tk := tk) hR (HE.out.sub (env' := [(w.heap.size, [.pointer (some ⟨jb, 0, none⟩)]), (w.heap.size + 1, [.int .i64 n, .int .i64 gen]), (w.heap.size + 1 + 1 + 1, [.int .i64 deadline]), (w.heap.size + 1 + 1, [.int .i64 tk]), (jb, [.pointer (some ⟨E.k, 0, none⟩), .int .i64 wk, .int .i64 ticks, .int .i64 shard, .int .i64 user, .func (.func ghk) #[] chk])]) (by simp)) Hhk.out hw hnb hgb hdb))
  go_wp2_with fail
  refine (HT.out).mono ?_
  rintro e w9 ⟨v2, L9, rfl, hd2, hg2, hc2⟩
  go_wp2
  go_ret
  exact ⟨v2, L9, rfl, HD.out.trans hd2, hg2, hc2⟩
set_option maxHeartbeats 2000000 in
theorem st7_call (hR : RMono (prApp E.cf R0)) {m : Nat} {wk ticks shard user : Int} {vk : Value} {k : PR ρ} {L : Lab} {w : World} {S : St} {jb : Nat} {bj bh bt bd : Nat} {n gen deadline tk : Int} (hg : Good E L S w) (henv : Env L w [(bj, [.pointer (some ⟨jb, 0, none⟩)]), (bh, [.int .i64 n, .int .i64 gen]), (bt, [.int .i64 tk]), (bd, [.int .i64 deadline]), (jb, [.pointer (some ⟨E.k, 0, none⟩), .int .i64 wk, .int .i64 ticks, .int .i64 shard, .int .i64 user, vk])]) (hk : ConSim E.cf (prApp E.cf R0) E t isHe m L w vk (.ret k)) (hw : 0 ≤ wk) (hnb : 0 ≤ n ∧ n ≤ 4294967294) (hgb : 0 ≤ gen ∧ gen ≤ 4294967295) (hdb : 0 ≤ deadline ∧ deadline ≤ 1073741823) :
    Calls Tryz.prog 240 #[.pointer (some ⟨bj, 0, none⟩), .pointer (some ⟨bh, 0, none⟩), .pointer (some ⟨bt, 0, none⟩), .pointer (some ⟨bd, 0, none⟩)] w (Post E.cf (prApp E.cf R0) E t m L w ((S, some (.store (E.cf.state n) (stateWord gen deadline 1) (.ret (.st8 wk shard deadline n gen tk k)))))) := by
  have HD := Go.Lib.hid (Did.refl t L w)
  have HG := Go.Lib.hid hg
  have HE := Go.Lib.hid henv
  obtain ⟨ghk, chk, hvhk, hgfhk, _⟩ := id hk
  subst hvhk
  have henhk : ∀ (args : Array Value) (w : World), (callFunc ghk args).run Tryz.prog w = .ok (.enter ghk args) w := hgfhk
  have Hhk := Go.Lib.hid hk
  clear hg henv hk hgfhk
  have q0_0 : w.cell? ⟨bj, 0, none⟩ = some (.pointer (some ⟨jb, 0, none⟩)) := HE.out.cell 0 0 rfl rfl
  have q1_0 : w.cell? ⟨bh, 0, none⟩ = some (.int .i64 n) := HE.out.cell 1 0 rfl rfl
  have q1_1 : w.cell? ⟨bh, 1, none⟩ = some (.int .i64 gen) := HE.out.cell 1 1 rfl rfl
  have q2_0 : w.cell? ⟨bt, 0, none⟩ = some (.int .i64 tk) := HE.out.cell 2 0 rfl rfl
  have q3_0 : w.cell? ⟨bd, 0, none⟩ = some (.int .i64 deadline) := HE.out.cell 3 0 rfl rfl
  have q4_0 : w.cell? ⟨jb, 0, none⟩ = some (.pointer (some ⟨E.k, 0, none⟩)) := HE.out.cell 4 0 rfl rfl
  have q4_1 : w.cell? ⟨jb, 1, none⟩ = some (.int .i64 wk) := HE.out.cell 4 1 rfl rfl
  have q4_2 : w.cell? ⟨jb, 2, none⟩ = some (.int .i64 ticks) := HE.out.cell 4 2 rfl rfl
  have q4_3 : w.cell? ⟨jb, 3, none⟩ = some (.int .i64 shard) := HE.out.cell 4 3 rfl rfl
  have q4_4 : w.cell? ⟨jb, 4, none⟩ = some (.int .i64 user) := HE.out.cell 4 4 rfl rfl
  have q4_5 : w.cell? ⟨jb, 5, none⟩ = some (.func (.func ghk) #[] chk) := HE.out.cell 4 5 rfl rfl
  go_enter Tryz.func240, Tryz.ntmps240
  go_wp2_with fail
  refine (st_arm hR HG.out (HE.out.sub (env' := [(jb, [.pointer (some ⟨E.k, 0, none⟩), .int .i64 wk, .int .i64 ticks, .int .i64 shard, .int .i64 user, .func (.func ghk) #[] chk])]) (by simp)) Hhk.out hw hnb hgb hdb).mono ?_
  rintro e w9 ⟨v2, L9, rfl, hd2, hg2, hc2⟩
  go_wp2
  go_ret
  exact ⟨v2, L9, rfl, HD.out.trans hd2, hg2, hc2⟩
theorem st7_con (hR : RMono (prApp E.cf R0)) {m : Nat} {wk ticks shard user : Int} {vk : Value} {k : PR ρ} {L : Lab} {w : World} {jb : Nat} {bj bh bt bd : Nat} {n gen deadline tk : Int} (henv : Env L w [(bj, [.pointer (some ⟨jb, 0, none⟩)]), (bh, [.int .i64 n, .int .i64 gen]), (bt, [.int .i64 tk]), (bd, [.int .i64 deadline]), (jb, [.pointer (some ⟨E.k, 0, none⟩), .int .i64 wk, .int .i64 ticks, .int .i64 shard, .int .i64 user, vk])]) (hk : ConSim E.cf (prApp E.cf R0) E t isHe m L w vk (.ret k)) (hw : 0 ≤ wk) (hnb : 0 ≤ n ∧ n ≤ 4294967294) (hgb : 0 ≤ gen ∧ gen ≤ 4294967295) (hdb : 0 ≤ deadline ∧ deadline ≤ 1073741823) :
    ConSim E.cf (prApp E.cf R0) E t isU m L w (.func (.func 240) #[] #[.pointer (some ⟨bj, 0, none⟩), .pointer (some ⟨bh, 0, none⟩), .pointer (some ⟨bt, 0, none⟩), .pointer (some ⟨bd, 0, none⟩)]) (.ret (.st7 wk shard deadline n gen tk k)) := by
  refine ⟨_, _, rfl, enters_of Tryz.func240 (by kernel_rfl) rfl, ?_⟩
  intro a L' w' S ha hx hg hbd
  cases a with
  | u =>
    show Calls _ _ #[_, _, _, _] _ _
    exact st7_call hR hg (henv.ext hx) (ConSim.ext E.cf (prApp E.cf R0) E t hk hx) hw hnb hgb hdb
  | _ => exact absurd ha (by simp [isU])
set_option maxHeartbeats 2000000 in
theorem st6_call (hR : RMono (prApp E.cf R0)) {m : Nat} {wk ticks shard user : Int} {vk : Value} {k : PR ρ} {L : Lab} {w : World} {S : St} {jb : Nat} {bj bh bt bd : Nat} {n gen deadline tk : Int} (hg : Good E L S w) (henv : Env L w [(bj, [.pointer (some ⟨jb, 0, none⟩)]), (bh, [.int .i64 n, .int .i64 gen]), (bt, [.int .i64 tk]), (bd, [.int .i64 deadline]), (jb, [.pointer (some ⟨E.k, 0, none⟩), .int .i64 wk, .int .i64 ticks, .int .i64 shard, .int .i64 user, vk])]) (hk : ConSim E.cf (prApp E.cf R0) E t isHe m L w vk (.ret k)) (hw : 0 ≤ wk) (hnb : 0 ≤ n ∧ n ≤ 4294967294) (hgb : 0 ≤ gen ∧ gen ≤ 4294967295) (hdb : 0 ≤ deadline ∧ deadline ≤ 1073741823) :
    Calls Tryz.prog 239 #[.pointer (some ⟨bj, 0, none⟩), .pointer (some ⟨bh, 0, none⟩), .pointer (some ⟨bt, 0, none⟩), .pointer (some ⟨bd, 0, none⟩)] w (Post E.cf (prApp E.cf R0) E t m L w ((S, some (.store (E.cf.user n) (toU user) (.ret (.st7 wk shard deadline n gen tk k)))))) := by
  have HD := Go.Lib.hid (Did.refl t L w)
  have HG := Go.Lib.hid hg
  have HE := Go.Lib.hid henv
  obtain ⟨ghk, chk, hvhk, hgfhk, _⟩ := id hk
  subst hvhk
  have henhk : ∀ (args : Array Value) (w : World), (callFunc ghk args).run Tryz.prog w = .ok (.enter ghk args) w := hgfhk
  have Hhk := Go.Lib.hid hk
  clear hg henv hk hgfhk
  have HCE := Go.Lib.hid (arm_cells HG.out)
  have HPL := Go.Lib.hid (arm_plan HG.out)
  have HSA := Go.Lib.hid (arm_user HG.out n)
  have hwu := toU_wrap user
  have HSL := Go.Lib.hid (toU_bd user)
  generalize toU user = uu at *
  have q0_0 : w.cell? ⟨bj, 0, none⟩ = some (.pointer (some ⟨jb, 0, none⟩)) := HE.out.cell 0 0 rfl rfl
  have q1_0 : w.cell? ⟨bh, 0, none⟩ = some (.int .i64 n) := HE.out.cell 1 0 rfl rfl
  have q1_1 : w.cell? ⟨bh, 1, none⟩ = some (.int .i64 gen) := HE.out.cell 1 1 rfl rfl
  have q2_0 : w.cell? ⟨bt, 0, none⟩ = some (.int .i64 tk) := HE.out.cell 2 0 rfl rfl
  have q3_0 : w.cell? ⟨bd, 0, none⟩ = some (.int .i64 deadline) := HE.out.cell 3 0 rfl rfl
  have q4_0 : w.cell? ⟨jb, 0, none⟩ = some (.pointer (some ⟨E.k, 0, none⟩)) := HE.out.cell 4 0 rfl rfl
  have q4_1 : w.cell? ⟨jb, 1, none⟩ = some (.int .i64 wk) := HE.out.cell 4 1 rfl rfl
  have q4_2 : w.cell? ⟨jb, 2, none⟩ = some (.int .i64 ticks) := HE.out.cell 4 2 rfl rfl
  have q4_3 : w.cell? ⟨jb, 3, none⟩ = some (.int .i64 shard) := HE.out.cell 4 3 rfl rfl
  have q4_4 : w.cell? ⟨jb, 4, none⟩ = some (.int .i64 user) := HE.out.cell 4 4 rfl rfl
  have q4_5 : w.cell? ⟨jb, 5, none⟩ = some (.func (.func ghk) #[] chk) := HE.out.cell 4 5 rfl rfl
  go_enter Tryz.func239, Tryz.ntmps239
  go_wp2
  have q0_0' : ∀ d os, (Sort.grow (redrawn w d) os).cell? ⟨bj, 0, none⟩ = some (.pointer (some ⟨jb, 0, none⟩)) := fun d os => cell_regrown q0_0 d os
  have q1_0' : ∀ d os, (Sort.grow (redrawn w d) os).cell? ⟨bh, 0, none⟩ = some (.int .i64 n) := fun d os => cell_regrown q1_0 d os
  have q1_1' : ∀ d os, (Sort.grow (redrawn w d) os).cell? ⟨bh, 1, none⟩ = some (.int .i64 gen) := fun d os => cell_regrown q1_1 d os
  have q2_0' : ∀ d os, (Sort.grow (redrawn w d) os).cell? ⟨bt, 0, none⟩ = some (.int .i64 tk) := fun d os => cell_regrown q2_0 d os
  have q3_0' : ∀ d os, (Sort.grow (redrawn w d) os).cell? ⟨bd, 0, none⟩ = some (.int .i64 deadline) := fun d os => cell_regrown q3_0 d os
  have q4_0' : ∀ d os, (Sort.grow (redrawn w d) os).cell? ⟨jb, 0, none⟩ = some (.pointer (some ⟨E.k, 0, none⟩)) := fun d os => cell_regrown q4_0 d os
  have q4_1' : ∀ d os, (Sort.grow (redrawn w d) os).cell? ⟨jb, 1, none⟩ = some (.int .i64 wk) := fun d os => cell_regrown q4_1 d os
  have q4_2' : ∀ d os, (Sort.grow (redrawn w d) os).cell? ⟨jb, 2, none⟩ = some (.int .i64 ticks) := fun d os => cell_regrown q4_2 d os
  have q4_3' : ∀ d os, (Sort.grow (redrawn w d) os).cell? ⟨jb, 3, none⟩ = some (.int .i64 shard) := fun d os => cell_regrown q4_3 d os
  have q4_4' : ∀ d os, (Sort.grow (redrawn w d) os).cell? ⟨jb, 4, none⟩ = some (.int .i64 user) := fun d os => cell_regrown q4_4 d os
  have q4_5' : ∀ d os, (Sort.grow (redrawn w d) os).cell? ⟨jb, 5, none⟩ = some (.func (.func ghk) #[] chk) := fun d os => cell_regrown q4_5 d os
  refine wp_region_below_tail 19 (by kernel_rfl) (by kernel_rfl) ?_
  simp only [List.take_succ_cons, List.take_zero, List.drop_succ_cons, List.drop_zero]
  repeat (go_big_quiet_step (first
    | (go_at_call 44; rename_i p; exact Calls.regrown_of (HCE.out _ (below_regrown w p.d p.os)))
    | (go_at_call 47; rename_i p; exact Calls.regrown_of (HPL.out _ (below_regrown w p.d p.os)))
    | (go_at_call 96; rename_i p; exact Calls.regrown_of (HSA.out _ (below_regrown w p.d p.os)))))
  refine wpQuiet_nil ?_
  intro w1 hw'
  obtain ⟨p, rfl⟩ := hw'
  have hb := below_regrown w p.d p.os
  clear q0_0' q1_0' q1_1' q2_0' q3_0' q4_0' q4_1' q4_2' q4_3' q4_4' q4_5' q0_0 q1_0 q1_1 q2_0 q3_0 q4_0 q4_1 q4_2 q4_3 q4_4 q4_5
  generalize Sort.grow (redrawn w p.d) p.os = w1 at *
  replace HG := Go.Lib.hid (HG.out.below hb)
  replace HE := Go.Lib.hid (HE.out.ext (below_ext hb t L))
  replace Hhk := Go.Lib.hid (ConSim.ext E.cf (prApp E.cf R0) E t Hhk.out (below_ext hb t L))
  replace HD := Go.Lib.hid (HD.out.trans (below_did hb t L))
  clear hb
  have q0_0 : w1.cell? ⟨bj, 0, none⟩ = some (.pointer (some ⟨jb, 0, none⟩)) := HE.out.cell 0 0 rfl rfl
  have q1_0 : w1.cell? ⟨bh, 0, none⟩ = some (.int .i64 n) := HE.out.cell 1 0 rfl rfl
  have q1_1 : w1.cell? ⟨bh, 1, none⟩ = some (.int .i64 gen) := HE.out.cell 1 1 rfl rfl
  have q2_0 : w1.cell? ⟨bt, 0, none⟩ = some (.int .i64 tk) := HE.out.cell 2 0 rfl rfl
  have q3_0 : w1.cell? ⟨bd, 0, none⟩ = some (.int .i64 deadline) := HE.out.cell 3 0 rfl rfl
  have q4_0 : w1.cell? ⟨jb, 0, none⟩ = some (.pointer (some ⟨E.k, 0, none⟩)) := HE.out.cell 4 0 rfl rfl
  have q4_1 : w1.cell? ⟨jb, 1, none⟩ = some (.int .i64 wk) := HE.out.cell 4 1 rfl rfl
  have q4_2 : w1.cell? ⟨jb, 2, none⟩ = some (.int .i64 ticks) := HE.out.cell 4 2 rfl rfl
  have q4_3 : w1.cell? ⟨jb, 3, none⟩ = some (.int .i64 shard) := HE.out.cell 4 3 rfl rfl
  have q4_4 : w1.cell? ⟨jb, 4, none⟩ = some (.int .i64 user) := HE.out.cell 4 4 rfl rfl
  have q4_5 : w1.cell? ⟨jb, 5, none⟩ = some (.func (.func ghk) #[] chk) := HE.out.cell 4 5 rfl rfl
  have HT := Go.Lib.hid (store_at hR (i := E.cf.user n) HSL.out HG.out (st7_con (tk := tk) hR HE.out Hhk.out hw hnb hgb hdb))
  go_wp2_with fail
  refine (HT.out).mono ?_
  rintro e w9 ⟨v2, L9, rfl, hd2, hg2, hc2⟩
  go_wp2
  go_ret
  exact ⟨v2, L9, rfl, HD.out.trans hd2, hg2, hc2⟩
theorem st6_con (hR : RMono (prApp E.cf R0)) {m : Nat} {wk ticks shard user : Int} {vk : Value} {k : PR ρ} {L : Lab} {w : World} {jb : Nat} {bj bh bt bd : Nat} {n gen deadline tk : Int} (henv : Env L w [(bj, [.pointer (some ⟨jb, 0, none⟩)]), (bh, [.int .i64 n, .int .i64 gen]), (bt, [.int .i64 tk]), (bd, [.int .i64 deadline]), (jb, [.pointer (some ⟨E.k, 0, none⟩), .int .i64 wk, .int .i64 ticks, .int .i64 shard, .int .i64 user, vk])]) (hk : ConSim E.cf (prApp E.cf R0) E t isHe m L w vk (.ret k)) (hw : 0 ≤ wk) (hnb : 0 ≤ n ∧ n ≤ 4294967294) (hgb : 0 ≤ gen ∧ gen ≤ 4294967295) (hdb : 0 ≤ deadline ∧ deadline ≤ 1073741823) :
    ConSim E.cf (prApp E.cf R0) E t isU m L w (.func (.func 239) #[] #[.pointer (some ⟨bj, 0, none⟩), .pointer (some ⟨bh, 0, none⟩), .pointer (some ⟨bt, 0, none⟩), .pointer (some ⟨bd, 0, none⟩)]) (.ret (.st6 wk shard user deadline n gen tk k)) := by
  refine ⟨_, _, rfl, enters_of Tryz.func239 (by kernel_rfl) rfl, ?_⟩
  intro a L' w' S ha hx hg hbd
  cases a with
  | u =>
    show Calls _ _ #[_, _, _, _] _ _
    exact st6_call hR hg (henv.ext hx) (ConSim.ext E.cf (prApp E.cf R0) E t hk hx) hw hnb hgb hdb
  | _ => exact absurd ha (by simp [isU])
end
end Go.Proofs.YtgemjjpmoejgdaaGreat
