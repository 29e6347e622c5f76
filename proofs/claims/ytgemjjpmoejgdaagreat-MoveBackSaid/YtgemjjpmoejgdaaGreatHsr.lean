/- A Migrate, as code. -/
import Derived.Test.YtgemjjpmoejgdaaGreatHsq
namespace Go.Proofs.YtgemjjpmoejgdaaGreat
open Go.RowKit
set_option maxRecDepth 100000
set_option linter.unusedVariables false

section
variable {ρ : Type} {R0 : ρ → Arg → St → St × Option (K (PR ρ))} {E : G} {t : Nat}
set_option maxHeartbeats 2000000 in
theorem mg_point {wk n g s er : Int} {vk : Value} {L : Lab} {w : World} {S : St} {jb : Nat} (hg : Good E L S w) (henv : Env L w [(jb, [.pointer (some ⟨E.k, 0, none⟩), .int .i64 wk, .int .i64 s, .int .i64 n, .int .i64 g, vk])]) (hn : S.log.length ≤ 1099511627775) (hRt : ∀ w, Calls Tryz.prog 235 #[.agg #[.int .i64 3, .int .i64 wk, .int .i64 4, .int .i64 n, .int .i64 g, .int .i64 0, .int .i64 0, .int .i64 0, .int .i64 0, .int .i64 0, .bool false, .int .i64 er]] w fun e w' => e = .returned (.bool true) ∧ Below w.heap.size w w') :
    Calls Tryz.prog 214 #[.pointer (some ⟨jb, 0, none⟩), .int .i64 er] w fun e w' => ∃ L', e = .returned (.tuple #[]) ∧ Noted E L S w (migratePoint wk n g er) L' w' := by
  have henv : Env L w [(jb, [.pointer (some ⟨E.k, 0, none⟩), .int .i64 wk, .int .i64 s, .int .i64 n, .int .i64 g])] := fun p hp => by
    obtain rfl := List.mem_singleton.1 hp
    obtain ⟨a, b, c⟩ := henv _ (List.mem_singleton.2 rfl)
    refine ⟨a, b, fun i v hi => c i v ?_⟩
    match i, hi with
    | 0, hi => exact hi
    | 1, hi => exact hi
    | 2, hi => exact hi
    | 3, hi => exact hi
    | 4, hi => exact hi
    | _ + 5, hi => simp at hi
  have HD := Go.Lib.hid (Did.refl 0 L w)
  have HG := Go.Lib.hid hg
  have HE := Go.Lib.hid henv
  clear hg henv
  have q0_0 : w.cell? ⟨jb, 0, none⟩ = some (.pointer (some ⟨E.k, 0, none⟩)) := HE.out.cell 0 0 rfl rfl
  have q0_1 : w.cell? ⟨jb, 1, none⟩ = some (.int .i64 wk) := HE.out.cell 0 1 rfl rfl
  have q0_2 : w.cell? ⟨jb, 2, none⟩ = some (.int .i64 s) := HE.out.cell 0 2 rfl rfl
  have q0_3 : w.cell? ⟨jb, 3, none⟩ = some (.int .i64 n) := HE.out.cell 0 3 rfl rfl
  have q0_4 : w.cell? ⟨jb, 4, none⟩ = some (.int .i64 g) := HE.out.cell 0 4 rfl rfl
  go_enter Tryz.func214, Tryz.ntmps214
  go_wp2
  have HBL := Go.Lib.hid (Below.refl w.heap.size w)
  have q0_0' : ∀ d os, (Sort.grow (redrawn w d) os).cell? ⟨jb, 0, none⟩ = some (.pointer (some ⟨E.k, 0, none⟩)) := fun d os => cell_regrown q0_0 d os
  have q0_1' : ∀ d os, (Sort.grow (redrawn w d) os).cell? ⟨jb, 1, none⟩ = some (.int .i64 wk) := fun d os => cell_regrown q0_1 d os
  have q0_2' : ∀ d os, (Sort.grow (redrawn w d) os).cell? ⟨jb, 2, none⟩ = some (.int .i64 s) := fun d os => cell_regrown q0_2 d os
  have q0_3' : ∀ d os, (Sort.grow (redrawn w d) os).cell? ⟨jb, 3, none⟩ = some (.int .i64 n) := fun d os => cell_regrown q0_3 d os
  have q0_4' : ∀ d os, (Sort.grow (redrawn w d) os).cell? ⟨jb, 4, none⟩ = some (.int .i64 g) := fun d os => cell_regrown q0_4 d os
  refine wp_region_below_tail 14 (by kernel_rfl) (by kernel_rfl) ?_
  simp only [List.take_succ_cons, List.take_zero, List.drop_succ_cons, List.drop_zero]
  repeat (go_big_quiet_step (first
    | fail))
  refine wpQuiet_nil ?_
  intro w1 hw'
  obtain ⟨p, rfl⟩ := hw'
  have hb := below_regrown w p.d p.os
  clear q0_0' q0_1' q0_2' q0_3' q0_4' q0_0 q0_1 q0_2 q0_3 q0_4
  generalize Sort.grow (redrawn w p.d) p.os = w1 at *
  replace HG := Go.Lib.hid (HG.out.below hb)
  replace HE := Go.Lib.hid (HE.out.ext (below_ext hb 0 L))
  replace HD := Go.Lib.hid (HD.out.trans (below_did hb 0 L))
  replace HBL := Go.Lib.hid (HBL.out.trans (hb.mono HBL.out.size))
  clear hb
  have q0_0 : w1.cell? ⟨jb, 0, none⟩ = some (.pointer (some ⟨E.k, 0, none⟩)) := HE.out.cell 0 0 rfl rfl
  have q0_1 : w1.cell? ⟨jb, 1, none⟩ = some (.int .i64 wk) := HE.out.cell 0 1 rfl rfl
  have q0_2 : w1.cell? ⟨jb, 2, none⟩ = some (.int .i64 s) := HE.out.cell 0 2 rfl rfl
  have q0_3 : w1.cell? ⟨jb, 3, none⟩ = some (.int .i64 n) := HE.out.cell 0 3 rfl rfl
  have q0_4 : w1.cell? ⟨jb, 4, none⟩ = some (.int .i64 g) := HE.out.cell 0 4 rfl rfl
  go_wp2_with fail
  refine (core_note_any HG.out hn 3 wk 4 n g 0 0 0 0 0 er false hRt).mono ?_
  rintro e w9 ⟨L9, rfl, hno⟩
  have HNO := Go.Lib.hid hno
  clear hno
  go_wp2
  go_end0
  exact ⟨L9, rfl, HNO.out.of_below HBL.out⟩
set_option maxHeartbeats 2000000 in
theorem mg_fail (hR : RMono (prApp E.cf R0)) {m : Nat} {wk n g s : Int} {vk : Value} {k : PR ρ} {L : Lab} {w : World} {S : St} {jb : Nat} {er : Int} (hg : Good E L S w) (henv : Env L w [(jb, [.pointer (some ⟨E.k, 0, none⟩), .int .i64 wk, .int .i64 s, .int .i64 n, .int .i64 g, vk])]) (hk : ConSim E.cf (prApp E.cf R0) E t isE m L w vk (.ret k)) (hw : 0 ≤ wk) (he : 0 < er ∧ er ≤ 100) (hbd : Bd (prApp E.cf R0 k (.e er) (S.note (migratePoint wk n g er))).1) :
    Calls Tryz.prog 138 #[.pointer (some ⟨jb, 0, none⟩), .int .i64 er] w (Post E.cf (prApp E.cf R0) E t m L w (prApp E.cf R0 k (.e er) (S.note (migratePoint wk n g er)))) := by
  have hn := (Bd.of_mono hR hbd).of_note
  have HD := Go.Lib.hid (Did.refl t L w)
  have HG := Go.Lib.hid hg
  have HE := Go.Lib.hid henv
  obtain ⟨ghk, chk, hvhk, hgfhk, _⟩ := id hk
  subst hvhk
  have henhk : ∀ (args : Array Value) (w : World), (callFunc ghk args).run Tryz.prog w = .ok (.enter ghk args) w := hgfhk
  have Hhk := Go.Lib.hid hk
  clear hg henv hk hgfhk
  have q0_0 : w.cell? ⟨jb, 0, none⟩ = some (.pointer (some ⟨E.k, 0, none⟩)) := HE.out.cell 0 0 rfl rfl
  have q0_1 : w.cell? ⟨jb, 1, none⟩ = some (.int .i64 wk) := HE.out.cell 0 1 rfl rfl
  have q0_2 : w.cell? ⟨jb, 2, none⟩ = some (.int .i64 s) := HE.out.cell 0 2 rfl rfl
  have q0_3 : w.cell? ⟨jb, 3, none⟩ = some (.int .i64 n) := HE.out.cell 0 3 rfl rfl
  have q0_4 : w.cell? ⟨jb, 4, none⟩ = some (.int .i64 g) := HE.out.cell 0 4 rfl rfl
  have q0_5 : w.cell? ⟨jb, 5, none⟩ = some (.func (.func ghk) #[] chk) := HE.out.cell 0 5 rfl rfl
  go_enter Tryz.func138, Tryz.ntmps138
  go_wp2_with fail
  refine (mg_point HG.out HE.out hn (fun w => migrateE_right wk n g er hw he.1 w)).mono ?_
  rintro e w1 ⟨L1, rfl, hno⟩
  clear q0_0 q0_1 q0_2 q0_3 q0_4 q0_5
  replace HG := Go.Lib.hid (hno.good)
  replace HE := Go.Lib.hid (HE.out.ext (hno.shr.ext t))
  replace Hhk := Go.Lib.hid (ConSim.ext E.cf (prApp E.cf R0) E t Hhk.out (hno.shr.ext t))
  replace HD := Go.Lib.hid (HD.out.trans (hno.shr.did t))
  clear hno
  have q0_0 : w1.cell? ⟨jb, 0, none⟩ = some (.pointer (some ⟨E.k, 0, none⟩)) := HE.out.cell 0 0 rfl rfl
  have q0_1 : w1.cell? ⟨jb, 1, none⟩ = some (.int .i64 wk) := HE.out.cell 0 1 rfl rfl
  have q0_2 : w1.cell? ⟨jb, 2, none⟩ = some (.int .i64 s) := HE.out.cell 0 2 rfl rfl
  have q0_3 : w1.cell? ⟨jb, 3, none⟩ = some (.int .i64 n) := HE.out.cell 0 3 rfl rfl
  have q0_4 : w1.cell? ⟨jb, 4, none⟩ = some (.int .i64 g) := HE.out.cell 0 4 rfl rfl
  have q0_5 : w1.cell? ⟨jb, 5, none⟩ = some (.func (.func ghk) #[] chk) := HE.out.cell 0 5 rfl rfl
  have HC : Hid (Calls Tryz.prog ghk ((Arg.vals (.e er)) ++ chk) w1 (Post E.cf (prApp E.cf R0) E t m L1 w1 (prApp E.cf R0 k (.e er) (S.note (migratePoint wk n g er))))) := Go.Lib.hid (Hhk.out.call (a := .e er) ⟨by omega, he.2⟩ HG.out hbd)
  clear hbd
  generalize prApp E.cf R0 k (.e er) (S.note (migratePoint wk n g er)) = rr at *
  go_wp2_with (go_at_fn ghk; refine (HC.out).mono ?_; rintro e w9 ⟨v2, L9, rfl, hd2, hg2, hc2⟩)
  go_ret
  exact ⟨v2, L9, rfl, HD.out.trans hd2, hg2, hc2⟩
set_option maxHeartbeats 2000000 in
theorem mg0_call1 (hR : RMono (prApp E.cf R0)) {m : Nat} {wk n g s : Int} {vk : Value} {k : PR ρ} {L : Lab} {w : World} {S : St} {jb : Nat} {bj : Nat} (hg : Good E L S w) (henv : Env L w [(bj, [.pointer (some ⟨jb, 0, none⟩)]), (jb, [.pointer (some ⟨E.k, 0, none⟩), .int .i64 wk, .int .i64 s, .int .i64 n, .int .i64 g, vk])]) (hk : ConSim E.cf (prApp E.cf R0) E t isE m L w vk (.ret k)) (hw : 0 ≤ wk) (hbd : Bd (prApp E.cf R0 k (.e 1) (S.note (migratePoint wk n g 1))).1) :
    Calls Tryz.prog 137 #[.pointer (some ⟨bj, 0, none⟩)] w (Post E.cf (prApp E.cf R0) E t m L w (prApp E.cf R0 k (.e 1) (S.note (migratePoint wk n g 1)))) := by
  have HD := Go.Lib.hid (Did.refl t L w)
  have HG := Go.Lib.hid hg
  have HE := Go.Lib.hid henv
  obtain ⟨ghk, chk, hvhk, hgfhk, _⟩ := id hk
  subst hvhk
  have henhk : ∀ (args : Array Value) (w : World), (callFunc ghk args).run Tryz.prog w = .ok (.enter ghk args) w := hgfhk
  have Hhk := Go.Lib.hid hk
  clear hg henv hk hgfhk
  have q0_0 : w.cell? ⟨bj, 0, none⟩ = some (.pointer (some ⟨jb, 0, none⟩)) := HE.out.cell 0 0 rfl rfl
  have q1_0 : w.cell? ⟨jb, 0, none⟩ = some (.pointer (some ⟨E.k, 0, none⟩)) := HE.out.cell 1 0 rfl rfl
  have q1_1 : w.cell? ⟨jb, 1, none⟩ = some (.int .i64 wk) := HE.out.cell 1 1 rfl rfl
  have q1_2 : w.cell? ⟨jb, 2, none⟩ = some (.int .i64 s) := HE.out.cell 1 2 rfl rfl
  have q1_3 : w.cell? ⟨jb, 3, none⟩ = some (.int .i64 n) := HE.out.cell 1 3 rfl rfl
  have q1_4 : w.cell? ⟨jb, 4, none⟩ = some (.int .i64 g) := HE.out.cell 1 4 rfl rfl
  have q1_5 : w.cell? ⟨jb, 5, none⟩ = some (.func (.func ghk) #[] chk) := HE.out.cell 1 5 rfl rfl
  go_enter Tryz.func137, Tryz.ntmps137
  go_wp2_with fail
  refine (mg_fail (er := 1) hR HG.out (HE.out.sub (env' := [(jb, [.pointer (some ⟨E.k, 0, none⟩), .int .i64 wk, .int .i64 s, .int .i64 n, .int .i64 g, .func (.func ghk) #[] chk])]) (by simp)) Hhk.out hw (by decide) hbd).mono ?_
  rintro e w9 ⟨v2, L9, rfl, hd2, hg2, hc2⟩
  go_wp2
  go_ret
  exact ⟨v2, L9, rfl, HD.out.trans hd2, hg2, hc2⟩
theorem mg0_con1 (hR : RMono (prApp E.cf R0)) {m : Nat} {wk n g s : Int} {vk : Value} {k : PR ρ} {L : Lab} {w : World} {jb : Nat} {bj : Nat} (henv : Env L w [(bj, [.pointer (some ⟨jb, 0, none⟩)]), (jb, [.pointer (some ⟨E.k, 0, none⟩), .int .i64 wk, .int .i64 s, .int .i64 n, .int .i64 g, vk])]) (hk : ConSim E.cf (prApp E.cf R0) E t isE m L w vk (.ret k)) (hw : 0 ≤ wk) :
    ConSim E.cf (prApp E.cf R0) E t isU m L w (.func (.func 137) #[] #[.pointer (some ⟨bj, 0, none⟩)]) (.ret (.mg0 wk n g 1 k)) := by
  refine ⟨_, _, rfl, enters_of Tryz.func137 (by kernel_rfl) rfl, ?_⟩
  intro a L' w' S ha hx hg hbd
  cases a with
  | u =>
    show Calls _ _ #[_] _ _
    exact mg0_call1 hR hg (henv.ext hx) (ConSim.ext E.cf (prApp E.cf R0) E t hk hx) hw hbd
  | _ => exact absurd ha (by simp [isU])
set_option maxHeartbeats 2000000 in
theorem mg0_call2 (hR : RMono (prApp E.cf R0)) {m : Nat} {wk n g s : Int} {vk : Value} {k : PR ρ} {L : Lab} {w : World} {S : St} {jb : Nat} {bj : Nat} (hg : Good E L S w) (henv : Env L w [(bj, [.pointer (some ⟨jb, 0, none⟩)]), (jb, [.pointer (some ⟨E.k, 0, none⟩), .int .i64 wk, .int .i64 s, .int .i64 n, .int .i64 g, vk])]) (hk : ConSim E.cf (prApp E.cf R0) E t isE m L w vk (.ret k)) (hw : 0 ≤ wk) (hbd : Bd (prApp E.cf R0 k (.e 4) (S.note (migratePoint wk n g 4))).1) :
    Calls Tryz.prog 140 #[.pointer (some ⟨bj, 0, none⟩)] w (Post E.cf (prApp E.cf R0) E t m L w (prApp E.cf R0 k (.e 4) (S.note (migratePoint wk n g 4)))) := by
  have HD := Go.Lib.hid (Did.refl t L w)
  have HG := Go.Lib.hid hg
  have HE := Go.Lib.hid henv
  obtain ⟨ghk, chk, hvhk, hgfhk, _⟩ := id hk
  subst hvhk
  have henhk : ∀ (args : Array Value) (w : World), (callFunc ghk args).run Tryz.prog w = .ok (.enter ghk args) w := hgfhk
  have Hhk := Go.Lib.hid hk
  clear hg henv hk hgfhk
  have q0_0 : w.cell? ⟨bj, 0, none⟩ = some (.pointer (some ⟨jb, 0, none⟩)) := HE.out.cell 0 0 rfl rfl
  have q1_0 : w.cell? ⟨jb, 0, none⟩ = some (.pointer (some ⟨E.k, 0, none⟩)) := HE.out.cell 1 0 rfl rfl
  have q1_1 : w.cell? ⟨jb, 1, none⟩ = some (.int .i64 wk) := HE.out.cell 1 1 rfl rfl
  have q1_2 : w.cell? ⟨jb, 2, none⟩ = some (.int .i64 s) := HE.out.cell 1 2 rfl rfl
  have q1_3 : w.cell? ⟨jb, 3, none⟩ = some (.int .i64 n) := HE.out.cell 1 3 rfl rfl
  have q1_4 : w.cell? ⟨jb, 4, none⟩ = some (.int .i64 g) := HE.out.cell 1 4 rfl rfl
  have q1_5 : w.cell? ⟨jb, 5, none⟩ = some (.func (.func ghk) #[] chk) := HE.out.cell 1 5 rfl rfl
  go_enter Tryz.func140, Tryz.ntmps140
  go_wp2_with fail
  refine (mg_fail (er := 4) hR HG.out (HE.out.sub (env' := [(jb, [.pointer (some ⟨E.k, 0, none⟩), .int .i64 wk, .int .i64 s, .int .i64 n, .int .i64 g, .func (.func ghk) #[] chk])]) (by simp)) Hhk.out hw (by decide) hbd).mono ?_
  rintro e w9 ⟨v2, L9, rfl, hd2, hg2, hc2⟩
  go_wp2
  go_ret
  exact ⟨v2, L9, rfl, HD.out.trans hd2, hg2, hc2⟩
theorem mg0_con2 (hR : RMono (prApp E.cf R0)) {m : Nat} {wk n g s : Int} {vk : Value} {k : PR ρ} {L : Lab} {w : World} {jb : Nat} {bj : Nat} (henv : Env L w [(bj, [.pointer (some ⟨jb, 0, none⟩)]), (jb, [.pointer (some ⟨E.k, 0, none⟩), .int .i64 wk, .int .i64 s, .int .i64 n, .int .i64 g, vk])]) (hk : ConSim E.cf (prApp E.cf R0) E t isE m L w vk (.ret k)) (hw : 0 ≤ wk) :
    ConSim E.cf (prApp E.cf R0) E t isU m L w (.func (.func 140) #[] #[.pointer (some ⟨bj, 0, none⟩)]) (.ret (.mg0 wk n g 4 k)) := by
  refine ⟨_, _, rfl, enters_of Tryz.func140 (by kernel_rfl) rfl, ?_⟩
  intro a L' w' S ha hx hg hbd
  cases a with
  | u =>
    show Calls _ _ #[_] _ _
    exact mg0_call2 hR hg (henv.ext hx) (ConSim.ext E.cf (prApp E.cf R0) E t hk hx) hw hbd
  | _ => exact absurd ha (by simp [isU])
/-- What 'armed' is handed: it is told the deadline, and whether the handle is armed. -/
def ArmSim (R0 : ρ → Arg → St → St × Option (K (PR ρ))) (E : G) (t : Nat) (g : Int) (m : Nat) (L : Lab) (w : World) (v : Value) (r : PR ρ) : Prop :=
  ∃ f cap, v = .func (.func f) #[] cap ∧ EntersF f ∧ ∀ x L' w' S, x < 18446744073709551616 → Ext t L w L' w' → Good E L' S w' → Bd (prApp E.cf R0 r (.w x) S).1 →
    Calls Tryz.prog f (#[.int .i64 (part x 2 30 : Nat), .bool (armedW x g)] ++ cap) w' (Post E.cf (prApp E.cf R0) E t m L' w' (prApp E.cf R0 r (.w x) S))
theorem ArmSim.ext {g : Int} {m : Nat} {L L' : Lab} {w w' : World} {v : Value} {r : PR ρ} (h : ArmSim R0 E t g m L w v r) (hx : Ext t L w L' w') : ArmSim R0 E t g m L' w' v r := by
  obtain ⟨f, cap, h1, h2, h3⟩ := h
  exact ⟨f, cap, h1, h2, fun x L2 w2 S h4 hx2 hg hb => h3 x L2 w2 S h4 (hx.trans hx2) hg hb⟩
set_option maxHeartbeats 4000000 in
theorem arm1_yes {m : Nat} {wk n g s : Int} {vk vt : Value} {r : PR ρ} {L : Lab} {w : World} {S : St} {jb bj bth x : Nat} (hg : Good E L S w) (henv : Env L w [(bth, [vt]), (bj, [.pointer (some ⟨jb, 0, none⟩)]), (jb, [.pointer (some ⟨E.k, 0, none⟩), .int .i64 wk, .int .i64 s, .int .i64 n, .int .i64 g, vk])]) (ht : ArmSim R0 E t g m L w vt r) (hx64 : x < 18446744073709551616) (hbd : Bd (prApp E.cf R0 r (.w x) S).1) (hav : armedW x g = true) (h1 : part x 0 2 = 1) (h2 : ((part x 32 32 : Nat) : Int) = g) :
    Calls Tryz.prog 215 #[.int .u64 x, .pointer (some ⟨bth, 0, none⟩), .pointer (some ⟨bj, 0, none⟩)] w (Post E.cf (prApp E.cf R0) E t m L w (prApp E.cf R0 r (.w x) S)) := by
  obtain ⟨ght, cht, hvt, hgt, hct⟩ := ht
  subst hvt
  have hen : ∀ (args : Array Value) (w : World), (callFunc ght args).run Tryz.prog w = .ok (.enter ght args) w := hgt
  have HSO := Go.Lib.hid (fun w => of_StateOf x w hx64)
  have HCT : Hid (∀ L' w', Ext t L w L' w' → Good E L' S w' → Calls Tryz.prog ght (#[.int .i64 (part x 2 30 : Nat), .bool true] ++ cht) w' (Post E.cf (prApp E.cf R0) E t m L' w' (prApp E.cf R0 r (.w x) S))) := fun L' w' hx hg' => by
    have h := hct x L' w' S hx64 hx hg' hbd
    rw [hav] at h
    exact h
  have HXT := Go.Lib.hid (Ext.refl t L w)
  generalize prApp E.cf R0 r (.w x) S = rr at *
  clear hav
  generalize part x 32 32 = gn at *
  generalize part x 2 30 = tm at *
  generalize part x 0 2 = sm at *
  have d1 : ((sm : Int) == 1) = true := by simp; omega
  have d2 : ((gn : Int) == g) = true := by simp; omega
  have d3 : (sm : Int) = 1 := by omega
  have d4 : (sm = 1) = True := by simp; omega
  have d5 : ((gn : Int) = g) = True := by simp; omega
  clear h1 h2 d3
  clear hct hgt hbd
  have HD := Go.Lib.hid (Did.refl t L w)
  have HG := Go.Lib.hid hg
  have HE := Go.Lib.hid henv
  clear hg henv
  have q0_0 : w.cell? ⟨bth, 0, none⟩ = some (.func (.func ght) #[] cht) := HE.out.cell 0 0 rfl rfl
  have q1_0 : w.cell? ⟨bj, 0, none⟩ = some (.pointer (some ⟨jb, 0, none⟩)) := HE.out.cell 1 0 rfl rfl
  have q2_0 : w.cell? ⟨jb, 0, none⟩ = some (.pointer (some ⟨E.k, 0, none⟩)) := HE.out.cell 2 0 rfl rfl
  have q2_1 : w.cell? ⟨jb, 1, none⟩ = some (.int .i64 wk) := HE.out.cell 2 1 rfl rfl
  have q2_2 : w.cell? ⟨jb, 2, none⟩ = some (.int .i64 s) := HE.out.cell 2 2 rfl rfl
  have q2_3 : w.cell? ⟨jb, 3, none⟩ = some (.int .i64 n) := HE.out.cell 2 3 rfl rfl
  have q2_4 : w.cell? ⟨jb, 4, none⟩ = some (.int .i64 g) := HE.out.cell 2 4 rfl rfl
  have q2_5 : w.cell? ⟨jb, 5, none⟩ = some (vk) := HE.out.cell 2 5 rfl rfl
  go_enter Tryz.func215, Tryz.ntmps215
  go_wp2_with fail
  refine (HSO.out _).mono ?_
  rintro e w1 ⟨rfl, hb⟩
  clear q0_0 q1_0 q2_0 q2_1 q2_2 q2_3 q2_4 q2_5
  replace HG := Go.Lib.hid (HG.out.below hb)
  replace HE := Go.Lib.hid (HE.out.ext (below_ext hb t L))
  replace HD := Go.Lib.hid (HD.out.trans (below_did hb t L))
  replace HXT := Go.Lib.hid (HXT.out.trans (below_ext hb t L))
  clear hb
  have q0_0 : w1.cell? ⟨bth, 0, none⟩ = some (.func (.func ght) #[] cht) := HE.out.cell 0 0 rfl rfl
  have q1_0 : w1.cell? ⟨bj, 0, none⟩ = some (.pointer (some ⟨jb, 0, none⟩)) := HE.out.cell 1 0 rfl rfl
  have q2_0 : w1.cell? ⟨jb, 0, none⟩ = some (.pointer (some ⟨E.k, 0, none⟩)) := HE.out.cell 2 0 rfl rfl
  have q2_1 : w1.cell? ⟨jb, 1, none⟩ = some (.int .i64 wk) := HE.out.cell 2 1 rfl rfl
  have q2_2 : w1.cell? ⟨jb, 2, none⟩ = some (.int .i64 s) := HE.out.cell 2 2 rfl rfl
  have q2_3 : w1.cell? ⟨jb, 3, none⟩ = some (.int .i64 n) := HE.out.cell 2 3 rfl rfl
  have q2_4 : w1.cell? ⟨jb, 4, none⟩ = some (.int .i64 g) := HE.out.cell 2 4 rfl rfl
  have q2_5 : w1.cell? ⟨jb, 5, none⟩ = some (vk) := HE.out.cell 2 5 rfl rfl
  have hb : Below w1.heap.size w1 (w1.alloc (.cells #[.int .i64 gn, .int .i64 tm, .int .i64 sm] 105)) := (Below.refl _ _).alloc (Nat.le_refl _) _
  have HE0 := Go.Lib.hid (Env.alloc_at HE.out (fun b hb => HG.out.new b hb) [.int .i64 gn, .int .i64 tm, .int .i64 sm] 105 (b := w1.heap.size) rfl)
  have n0_0 : (w1.alloc (.cells #[.int .i64 gn, .int .i64 tm, .int .i64 sm] 105)).cell? ⟨bth, 0, none⟩ = some (.func (.func ght) #[] cht) := below_cell hb q0_0
  have n1_0 : (w1.alloc (.cells #[.int .i64 gn, .int .i64 tm, .int .i64 sm] 105)).cell? ⟨bj, 0, none⟩ = some (.pointer (some ⟨jb, 0, none⟩)) := below_cell hb q1_0
  have n2_0 : (w1.alloc (.cells #[.int .i64 gn, .int .i64 tm, .int .i64 sm] 105)).cell? ⟨jb, 0, none⟩ = some (.pointer (some ⟨E.k, 0, none⟩)) := below_cell hb q2_0
  have n2_1 : (w1.alloc (.cells #[.int .i64 gn, .int .i64 tm, .int .i64 sm] 105)).cell? ⟨jb, 1, none⟩ = some (.int .i64 wk) := below_cell hb q2_1
  have n2_2 : (w1.alloc (.cells #[.int .i64 gn, .int .i64 tm, .int .i64 sm] 105)).cell? ⟨jb, 2, none⟩ = some (.int .i64 s) := below_cell hb q2_2
  have n2_3 : (w1.alloc (.cells #[.int .i64 gn, .int .i64 tm, .int .i64 sm] 105)).cell? ⟨jb, 3, none⟩ = some (.int .i64 n) := below_cell hb q2_3
  have n2_4 : (w1.alloc (.cells #[.int .i64 gn, .int .i64 tm, .int .i64 sm] 105)).cell? ⟨jb, 4, none⟩ = some (.int .i64 g) := below_cell hb q2_4
  have n2_5 : (w1.alloc (.cells #[.int .i64 gn, .int .i64 tm, .int .i64 sm] 105)).cell? ⟨jb, 5, none⟩ = some (vk) := below_cell hb q2_5
  go_wp2
  clear n0_0 n1_0 n2_0 n2_1 n2_2 n2_3 n2_4 n2_5 q0_0 q1_0 q2_0 q2_1 q2_2 q2_3 q2_4 q2_5
  generalize (w1.alloc (.cells #[.int .i64 gn, .int .i64 tm, .int .i64 sm] 105)) = w2 at *
  replace HG := Go.Lib.hid (HG.out.below hb)
  replace HE := Go.Lib.hid (HE0.out)
  replace HD := Go.Lib.hid (HD.out.trans (below_did hb t L))
  replace HXT := Go.Lib.hid (HXT.out.trans (below_ext hb t L))
  clear hb HE0
  have q0_0 : w2.cell? ⟨w1.heap.size, 0, none⟩ = some (.int .i64 gn) := HE.out.cell 0 0 rfl rfl
  have q0_1 : w2.cell? ⟨w1.heap.size, 1, none⟩ = some (.int .i64 tm) := HE.out.cell 0 1 rfl rfl
  have q0_2 : w2.cell? ⟨w1.heap.size, 2, none⟩ = some (.int .i64 sm) := HE.out.cell 0 2 rfl rfl
  have q1_0 : w2.cell? ⟨bth, 0, none⟩ = some (.func (.func ght) #[] cht) := HE.out.cell 1 0 rfl rfl
  have q2_0 : w2.cell? ⟨bj, 0, none⟩ = some (.pointer (some ⟨jb, 0, none⟩)) := HE.out.cell 2 0 rfl rfl
  have q3_0 : w2.cell? ⟨jb, 0, none⟩ = some (.pointer (some ⟨E.k, 0, none⟩)) := HE.out.cell 3 0 rfl rfl
  have q3_1 : w2.cell? ⟨jb, 1, none⟩ = some (.int .i64 wk) := HE.out.cell 3 1 rfl rfl
  have q3_2 : w2.cell? ⟨jb, 2, none⟩ = some (.int .i64 s) := HE.out.cell 3 2 rfl rfl
  have q3_3 : w2.cell? ⟨jb, 3, none⟩ = some (.int .i64 n) := HE.out.cell 3 3 rfl rfl
  have q3_4 : w2.cell? ⟨jb, 4, none⟩ = some (.int .i64 g) := HE.out.cell 3 4 rfl rfl
  have q3_5 : w2.cell? ⟨jb, 5, none⟩ = some (vk) := HE.out.cell 3 5 rfl rfl
  have q0_0' : ∀ d os, (Sort.grow (redrawn w2 d) os).cell? ⟨w1.heap.size, 0, none⟩ = some (.int .i64 gn) := fun d os => cell_regrown q0_0 d os
  have q0_1' : ∀ d os, (Sort.grow (redrawn w2 d) os).cell? ⟨w1.heap.size, 1, none⟩ = some (.int .i64 tm) := fun d os => cell_regrown q0_1 d os
  have q0_2' : ∀ d os, (Sort.grow (redrawn w2 d) os).cell? ⟨w1.heap.size, 2, none⟩ = some (.int .i64 sm) := fun d os => cell_regrown q0_2 d os
  have q1_0' : ∀ d os, (Sort.grow (redrawn w2 d) os).cell? ⟨bth, 0, none⟩ = some (.func (.func ght) #[] cht) := fun d os => cell_regrown q1_0 d os
  have q2_0' : ∀ d os, (Sort.grow (redrawn w2 d) os).cell? ⟨bj, 0, none⟩ = some (.pointer (some ⟨jb, 0, none⟩)) := fun d os => cell_regrown q2_0 d os
  have q3_0' : ∀ d os, (Sort.grow (redrawn w2 d) os).cell? ⟨jb, 0, none⟩ = some (.pointer (some ⟨E.k, 0, none⟩)) := fun d os => cell_regrown q3_0 d os
  have q3_1' : ∀ d os, (Sort.grow (redrawn w2 d) os).cell? ⟨jb, 1, none⟩ = some (.int .i64 wk) := fun d os => cell_regrown q3_1 d os
  have q3_2' : ∀ d os, (Sort.grow (redrawn w2 d) os).cell? ⟨jb, 2, none⟩ = some (.int .i64 s) := fun d os => cell_regrown q3_2 d os
  have q3_3' : ∀ d os, (Sort.grow (redrawn w2 d) os).cell? ⟨jb, 3, none⟩ = some (.int .i64 n) := fun d os => cell_regrown q3_3 d os
  have q3_4' : ∀ d os, (Sort.grow (redrawn w2 d) os).cell? ⟨jb, 4, none⟩ = some (.int .i64 g) := fun d os => cell_regrown q3_4 d os
  have q3_5' : ∀ d os, (Sort.grow (redrawn w2 d) os).cell? ⟨jb, 5, none⟩ = some (vk) := fun d os => cell_regrown q3_5 d os
  refine wp_region_below_tail 16 (by kernel_rfl) (by kernel_rfl) ?_
  simp only [List.take_succ_cons, List.take_zero, List.drop_succ_cons, List.drop_zero]
  repeat (go_big_quiet_step (first
    | fail))
  refine wpQuiet_nil ?_
  intro w3 hw'
  obtain ⟨p, rfl⟩ := hw'
  have hb := below_regrown w2 p.d p.os
  clear q0_0' q0_1' q0_2' q1_0' q2_0' q3_0' q3_1' q3_2' q3_3' q3_4' q3_5' q0_0 q0_1 q0_2 q1_0 q2_0 q3_0 q3_1 q3_2 q3_3 q3_4 q3_5
  generalize Sort.grow (redrawn w2 p.d) p.os = w3 at *
  replace HG := Go.Lib.hid (HG.out.below hb)
  replace HE := Go.Lib.hid (HE.out.ext (below_ext hb t L))
  replace HD := Go.Lib.hid (HD.out.trans (below_did hb t L))
  replace HXT := Go.Lib.hid (HXT.out.trans (below_ext hb t L))
  clear hb
  have q0_0 : w3.cell? ⟨w1.heap.size, 0, none⟩ = some (.int .i64 gn) := HE.out.cell 0 0 rfl rfl
  have q0_1 : w3.cell? ⟨w1.heap.size, 1, none⟩ = some (.int .i64 tm) := HE.out.cell 0 1 rfl rfl
  have q0_2 : w3.cell? ⟨w1.heap.size, 2, none⟩ = some (.int .i64 sm) := HE.out.cell 0 2 rfl rfl
  have q1_0 : w3.cell? ⟨bth, 0, none⟩ = some (.func (.func ght) #[] cht) := HE.out.cell 1 0 rfl rfl
  have q2_0 : w3.cell? ⟨bj, 0, none⟩ = some (.pointer (some ⟨jb, 0, none⟩)) := HE.out.cell 2 0 rfl rfl
  have q3_0 : w3.cell? ⟨jb, 0, none⟩ = some (.pointer (some ⟨E.k, 0, none⟩)) := HE.out.cell 3 0 rfl rfl
  have q3_1 : w3.cell? ⟨jb, 1, none⟩ = some (.int .i64 wk) := HE.out.cell 3 1 rfl rfl
  have q3_2 : w3.cell? ⟨jb, 2, none⟩ = some (.int .i64 s) := HE.out.cell 3 2 rfl rfl
  have q3_3 : w3.cell? ⟨jb, 3, none⟩ = some (.int .i64 n) := HE.out.cell 3 3 rfl rfl
  have q3_4 : w3.cell? ⟨jb, 4, none⟩ = some (.int .i64 g) := HE.out.cell 3 4 rfl rfl
  have q3_5 : w3.cell? ⟨jb, 5, none⟩ = some (vk) := HE.out.cell 3 5 rfl rfl
  have HC := Go.Lib.hid (HCT.out _ _ HXT.out HG.out)
  go_wp2_with (go_at_fn ght; refine (HC.out).mono ?_; rintro e w9 ⟨v2, L9, rfl, hd2, hg2, hc2⟩)
  go_ret
  exact ⟨v2, L9, rfl, HD.out.trans hd2, hg2, hc2⟩
set_option maxHeartbeats 4000000 in
theorem arm1_no1 {m : Nat} {wk n g s : Int} {vk vt : Value} {r : PR ρ} {L : Lab} {w : World} {S : St} {jb bj bth x : Nat} (hg : Good E L S w) (henv : Env L w [(bth, [vt]), (bj, [.pointer (some ⟨jb, 0, none⟩)]), (jb, [.pointer (some ⟨E.k, 0, none⟩), .int .i64 wk, .int .i64 s, .int .i64 n, .int .i64 g, vk])]) (ht : ArmSim R0 E t g m L w vt r) (hx64 : x < 18446744073709551616) (hbd : Bd (prApp E.cf R0 r (.w x) S).1) (hav : armedW x g = false) (h1 : ¬ part x 0 2 = 1) :
    Calls Tryz.prog 215 #[.int .u64 x, .pointer (some ⟨bth, 0, none⟩), .pointer (some ⟨bj, 0, none⟩)] w (Post E.cf (prApp E.cf R0) E t m L w (prApp E.cf R0 r (.w x) S)) := by
  obtain ⟨ght, cht, hvt, hgt, hct⟩ := ht
  subst hvt
  have hen : ∀ (args : Array Value) (w : World), (callFunc ght args).run Tryz.prog w = .ok (.enter ght args) w := hgt
  have HSO := Go.Lib.hid (fun w => of_StateOf x w hx64)
  have HCT : Hid (∀ L' w', Ext t L w L' w' → Good E L' S w' → Calls Tryz.prog ght (#[.int .i64 (part x 2 30 : Nat), .bool false] ++ cht) w' (Post E.cf (prApp E.cf R0) E t m L' w' (prApp E.cf R0 r (.w x) S))) := fun L' w' hx hg' => by
    have h := hct x L' w' S hx64 hx hg' hbd
    rw [hav] at h
    exact h
  have HXT := Go.Lib.hid (Ext.refl t L w)
  generalize prApp E.cf R0 r (.w x) S = rr at *
  clear hav
  generalize part x 32 32 = gn at *
  generalize part x 2 30 = tm at *
  generalize part x 0 2 = sm at *
  have d1 : ((sm : Int) == 1) = false := by simp; omega
  have d3 : ((sm : Int) = 1) = False := by simp; omega
  have d4 : (sm = 1) = False := by simp; exact h1
  clear h1
  clear hct hgt hbd
  have HD := Go.Lib.hid (Did.refl t L w)
  have HG := Go.Lib.hid hg
  have HE := Go.Lib.hid henv
  clear hg henv
  have q0_0 : w.cell? ⟨bth, 0, none⟩ = some (.func (.func ght) #[] cht) := HE.out.cell 0 0 rfl rfl
  have q1_0 : w.cell? ⟨bj, 0, none⟩ = some (.pointer (some ⟨jb, 0, none⟩)) := HE.out.cell 1 0 rfl rfl
  have q2_0 : w.cell? ⟨jb, 0, none⟩ = some (.pointer (some ⟨E.k, 0, none⟩)) := HE.out.cell 2 0 rfl rfl
  have q2_1 : w.cell? ⟨jb, 1, none⟩ = some (.int .i64 wk) := HE.out.cell 2 1 rfl rfl
  have q2_2 : w.cell? ⟨jb, 2, none⟩ = some (.int .i64 s) := HE.out.cell 2 2 rfl rfl
  have q2_3 : w.cell? ⟨jb, 3, none⟩ = some (.int .i64 n) := HE.out.cell 2 3 rfl rfl
  have q2_4 : w.cell? ⟨jb, 4, none⟩ = some (.int .i64 g) := HE.out.cell 2 4 rfl rfl
  have q2_5 : w.cell? ⟨jb, 5, none⟩ = some (vk) := HE.out.cell 2 5 rfl rfl
  go_enter Tryz.func215, Tryz.ntmps215
  go_wp2_with fail
  refine (HSO.out _).mono ?_
  rintro e w1 ⟨rfl, hb⟩
  clear q0_0 q1_0 q2_0 q2_1 q2_2 q2_3 q2_4 q2_5
  replace HG := Go.Lib.hid (HG.out.below hb)
  replace HE := Go.Lib.hid (HE.out.ext (below_ext hb t L))
  replace HD := Go.Lib.hid (HD.out.trans (below_did hb t L))
  replace HXT := Go.Lib.hid (HXT.out.trans (below_ext hb t L))
  clear hb
  have q0_0 : w1.cell? ⟨bth, 0, none⟩ = some (.func (.func ght) #[] cht) := HE.out.cell 0 0 rfl rfl
  have q1_0 : w1.cell? ⟨bj, 0, none⟩ = some (.pointer (some ⟨jb, 0, none⟩)) := HE.out.cell 1 0 rfl rfl
  have q2_0 : w1.cell? ⟨jb, 0, none⟩ = some (.pointer (some ⟨E.k, 0, none⟩)) := HE.out.cell 2 0 rfl rfl
  have q2_1 : w1.cell? ⟨jb, 1, none⟩ = some (.int .i64 wk) := HE.out.cell 2 1 rfl rfl
  have q2_2 : w1.cell? ⟨jb, 2, none⟩ = some (.int .i64 s) := HE.out.cell 2 2 rfl rfl
  have q2_3 : w1.cell? ⟨jb, 3, none⟩ = some (.int .i64 n) := HE.out.cell 2 3 rfl rfl
  have q2_4 : w1.cell? ⟨jb, 4, none⟩ = some (.int .i64 g) := HE.out.cell 2 4 rfl rfl
  have q2_5 : w1.cell? ⟨jb, 5, none⟩ = some (vk) := HE.out.cell 2 5 rfl rfl
  have hb : Below w1.heap.size w1 (w1.alloc (.cells #[.int .i64 gn, .int .i64 tm, .int .i64 sm] 105)) := (Below.refl _ _).alloc (Nat.le_refl _) _
  have HE0 := Go.Lib.hid (Env.alloc_at HE.out (fun b hb => HG.out.new b hb) [.int .i64 gn, .int .i64 tm, .int .i64 sm] 105 (b := w1.heap.size) rfl)
  have n0_0 : (w1.alloc (.cells #[.int .i64 gn, .int .i64 tm, .int .i64 sm] 105)).cell? ⟨bth, 0, none⟩ = some (.func (.func ght) #[] cht) := below_cell hb q0_0
  have n1_0 : (w1.alloc (.cells #[.int .i64 gn, .int .i64 tm, .int .i64 sm] 105)).cell? ⟨bj, 0, none⟩ = some (.pointer (some ⟨jb, 0, none⟩)) := below_cell hb q1_0
  have n2_0 : (w1.alloc (.cells #[.int .i64 gn, .int .i64 tm, .int .i64 sm] 105)).cell? ⟨jb, 0, none⟩ = some (.pointer (some ⟨E.k, 0, none⟩)) := below_cell hb q2_0
  have n2_1 : (w1.alloc (.cells #[.int .i64 gn, .int .i64 tm, .int .i64 sm] 105)).cell? ⟨jb, 1, none⟩ = some (.int .i64 wk) := below_cell hb q2_1
  have n2_2 : (w1.alloc (.cells #[.int .i64 gn, .int .i64 tm, .int .i64 sm] 105)).cell? ⟨jb, 2, none⟩ = some (.int .i64 s) := below_cell hb q2_2
  have n2_3 : (w1.alloc (.cells #[.int .i64 gn, .int .i64 tm, .int .i64 sm] 105)).cell? ⟨jb, 3, none⟩ = some (.int .i64 n) := below_cell hb q2_3
  have n2_4 : (w1.alloc (.cells #[.int .i64 gn, .int .i64 tm, .int .i64 sm] 105)).cell? ⟨jb, 4, none⟩ = some (.int .i64 g) := below_cell hb q2_4
  have n2_5 : (w1.alloc (.cells #[.int .i64 gn, .int .i64 tm, .int .i64 sm] 105)).cell? ⟨jb, 5, none⟩ = some (vk) := below_cell hb q2_5
  go_wp2
  clear n0_0 n1_0 n2_0 n2_1 n2_2 n2_3 n2_4 n2_5 q0_0 q1_0 q2_0 q2_1 q2_2 q2_3 q2_4 q2_5
  generalize (w1.alloc (.cells #[.int .i64 gn, .int .i64 tm, .int .i64 sm] 105)) = w2 at *
  replace HG := Go.Lib.hid (HG.out.below hb)
  replace HE := Go.Lib.hid (HE0.out)
  replace HD := Go.Lib.hid (HD.out.trans (below_did hb t L))
  replace HXT := Go.Lib.hid (HXT.out.trans (below_ext hb t L))
  clear hb HE0
  have q0_0 : w2.cell? ⟨w1.heap.size, 0, none⟩ = some (.int .i64 gn) := HE.out.cell 0 0 rfl rfl
  have q0_1 : w2.cell? ⟨w1.heap.size, 1, none⟩ = some (.int .i64 tm) := HE.out.cell 0 1 rfl rfl
  have q0_2 : w2.cell? ⟨w1.heap.size, 2, none⟩ = some (.int .i64 sm) := HE.out.cell 0 2 rfl rfl
  have q1_0 : w2.cell? ⟨bth, 0, none⟩ = some (.func (.func ght) #[] cht) := HE.out.cell 1 0 rfl rfl
  have q2_0 : w2.cell? ⟨bj, 0, none⟩ = some (.pointer (some ⟨jb, 0, none⟩)) := HE.out.cell 2 0 rfl rfl
  have q3_0 : w2.cell? ⟨jb, 0, none⟩ = some (.pointer (some ⟨E.k, 0, none⟩)) := HE.out.cell 3 0 rfl rfl
  have q3_1 : w2.cell? ⟨jb, 1, none⟩ = some (.int .i64 wk) := HE.out.cell 3 1 rfl rfl
  have q3_2 : w2.cell? ⟨jb, 2, none⟩ = some (.int .i64 s) := HE.out.cell 3 2 rfl rfl
  have q3_3 : w2.cell? ⟨jb, 3, none⟩ = some (.int .i64 n) := HE.out.cell 3 3 rfl rfl
  have q3_4 : w2.cell? ⟨jb, 4, none⟩ = some (.int .i64 g) := HE.out.cell 3 4 rfl rfl
  have q3_5 : w2.cell? ⟨jb, 5, none⟩ = some (vk) := HE.out.cell 3 5 rfl rfl
  have q0_0' : ∀ d os, (Sort.grow (redrawn w2 d) os).cell? ⟨w1.heap.size, 0, none⟩ = some (.int .i64 gn) := fun d os => cell_regrown q0_0 d os
  have q0_1' : ∀ d os, (Sort.grow (redrawn w2 d) os).cell? ⟨w1.heap.size, 1, none⟩ = some (.int .i64 tm) := fun d os => cell_regrown q0_1 d os
  have q0_2' : ∀ d os, (Sort.grow (redrawn w2 d) os).cell? ⟨w1.heap.size, 2, none⟩ = some (.int .i64 sm) := fun d os => cell_regrown q0_2 d os
  have q1_0' : ∀ d os, (Sort.grow (redrawn w2 d) os).cell? ⟨bth, 0, none⟩ = some (.func (.func ght) #[] cht) := fun d os => cell_regrown q1_0 d os
  have q2_0' : ∀ d os, (Sort.grow (redrawn w2 d) os).cell? ⟨bj, 0, none⟩ = some (.pointer (some ⟨jb, 0, none⟩)) := fun d os => cell_regrown q2_0 d os
  have q3_0' : ∀ d os, (Sort.grow (redrawn w2 d) os).cell? ⟨jb, 0, none⟩ = some (.pointer (some ⟨E.k, 0, none⟩)) := fun d os => cell_regrown q3_0 d os
  have q3_1' : ∀ d os, (Sort.grow (redrawn w2 d) os).cell? ⟨jb, 1, none⟩ = some (.int .i64 wk) := fun d os => cell_regrown q3_1 d os
  have q3_2' : ∀ d os, (Sort.grow (redrawn w2 d) os).cell? ⟨jb, 2, none⟩ = some (.int .i64 s) := fun d os => cell_regrown q3_2 d os
  have q3_3' : ∀ d os, (Sort.grow (redrawn w2 d) os).cell? ⟨jb, 3, none⟩ = some (.int .i64 n) := fun d os => cell_regrown q3_3 d os
  have q3_4' : ∀ d os, (Sort.grow (redrawn w2 d) os).cell? ⟨jb, 4, none⟩ = some (.int .i64 g) := fun d os => cell_regrown q3_4 d os
  have q3_5' : ∀ d os, (Sort.grow (redrawn w2 d) os).cell? ⟨jb, 5, none⟩ = some (vk) := fun d os => cell_regrown q3_5 d os
  refine wp_region_below_tail 16 (by kernel_rfl) (by kernel_rfl) ?_
  simp only [List.take_succ_cons, List.take_zero, List.drop_succ_cons, List.drop_zero]
  repeat (go_big_quiet_step (first
    | fail))
  refine wpQuiet_nil ?_
  intro w3 hw'
  obtain ⟨p, rfl⟩ := hw'
  have hb := below_regrown w2 p.d p.os
  clear q0_0' q0_1' q0_2' q1_0' q2_0' q3_0' q3_1' q3_2' q3_3' q3_4' q3_5' q0_0 q0_1 q0_2 q1_0 q2_0 q3_0 q3_1 q3_2 q3_3 q3_4 q3_5
  generalize Sort.grow (redrawn w2 p.d) p.os = w3 at *
  replace HG := Go.Lib.hid (HG.out.below hb)
  replace HE := Go.Lib.hid (HE.out.ext (below_ext hb t L))
  replace HD := Go.Lib.hid (HD.out.trans (below_did hb t L))
  replace HXT := Go.Lib.hid (HXT.out.trans (below_ext hb t L))
  clear hb
  have q0_0 : w3.cell? ⟨w1.heap.size, 0, none⟩ = some (.int .i64 gn) := HE.out.cell 0 0 rfl rfl
  have q0_1 : w3.cell? ⟨w1.heap.size, 1, none⟩ = some (.int .i64 tm) := HE.out.cell 0 1 rfl rfl
  have q0_2 : w3.cell? ⟨w1.heap.size, 2, none⟩ = some (.int .i64 sm) := HE.out.cell 0 2 rfl rfl
  have q1_0 : w3.cell? ⟨bth, 0, none⟩ = some (.func (.func ght) #[] cht) := HE.out.cell 1 0 rfl rfl
  have q2_0 : w3.cell? ⟨bj, 0, none⟩ = some (.pointer (some ⟨jb, 0, none⟩)) := HE.out.cell 2 0 rfl rfl
  have q3_0 : w3.cell? ⟨jb, 0, none⟩ = some (.pointer (some ⟨E.k, 0, none⟩)) := HE.out.cell 3 0 rfl rfl
  have q3_1 : w3.cell? ⟨jb, 1, none⟩ = some (.int .i64 wk) := HE.out.cell 3 1 rfl rfl
  have q3_2 : w3.cell? ⟨jb, 2, none⟩ = some (.int .i64 s) := HE.out.cell 3 2 rfl rfl
  have q3_3 : w3.cell? ⟨jb, 3, none⟩ = some (.int .i64 n) := HE.out.cell 3 3 rfl rfl
  have q3_4 : w3.cell? ⟨jb, 4, none⟩ = some (.int .i64 g) := HE.out.cell 3 4 rfl rfl
  have q3_5 : w3.cell? ⟨jb, 5, none⟩ = some (vk) := HE.out.cell 3 5 rfl rfl
  have HC := Go.Lib.hid (HCT.out _ _ HXT.out HG.out)
  go_wp2_with (go_at_fn ght; refine (HC.out).mono ?_; rintro e w9 ⟨v2, L9, rfl, hd2, hg2, hc2⟩)
  go_ret
  exact ⟨v2, L9, rfl, HD.out.trans hd2, hg2, hc2⟩
set_option maxHeartbeats 4000000 in
theorem arm1_no2 {m : Nat} {wk n g s : Int} {vk vt : Value} {r : PR ρ} {L : Lab} {w : World} {S : St} {jb bj bth x : Nat} (hg : Good E L S w) (henv : Env L w [(bth, [vt]), (bj, [.pointer (some ⟨jb, 0, none⟩)]), (jb, [.pointer (some ⟨E.k, 0, none⟩), .int .i64 wk, .int .i64 s, .int .i64 n, .int .i64 g, vk])]) (ht : ArmSim R0 E t g m L w vt r) (hx64 : x < 18446744073709551616) (hbd : Bd (prApp E.cf R0 r (.w x) S).1) (hav : armedW x g = false) (h1 : part x 0 2 = 1) (h2 : ¬ ((part x 32 32 : Nat) : Int) = g) :
    Calls Tryz.prog 215 #[.int .u64 x, .pointer (some ⟨bth, 0, none⟩), .pointer (some ⟨bj, 0, none⟩)] w (Post E.cf (prApp E.cf R0) E t m L w (prApp E.cf R0 r (.w x) S)) := by
  obtain ⟨ght, cht, hvt, hgt, hct⟩ := ht
  subst hvt
  have hen : ∀ (args : Array Value) (w : World), (callFunc ght args).run Tryz.prog w = .ok (.enter ght args) w := hgt
  have HSO := Go.Lib.hid (fun w => of_StateOf x w hx64)
  have HCT : Hid (∀ L' w', Ext t L w L' w' → Good E L' S w' → Calls Tryz.prog ght (#[.int .i64 (part x 2 30 : Nat), .bool false] ++ cht) w' (Post E.cf (prApp E.cf R0) E t m L' w' (prApp E.cf R0 r (.w x) S))) := fun L' w' hx hg' => by
    have h := hct x L' w' S hx64 hx hg' hbd
    rw [hav] at h
    exact h
  have HXT := Go.Lib.hid (Ext.refl t L w)
  generalize prApp E.cf R0 r (.w x) S = rr at *
  clear hav
  generalize part x 32 32 = gn at *
  generalize part x 2 30 = tm at *
  generalize part x 0 2 = sm at *
  have d1 : ((sm : Int) == 1) = true := by simp; omega
  have d2 : ((gn : Int) == g) = false := by simpa using h2
  have d4 : ((gn : Int) = g) = False := by simpa using h2
  have d5 : (sm = 1) = True := by simp; omega
  clear h2 h1
  clear hct hgt hbd
  have HD := Go.Lib.hid (Did.refl t L w)
  have HG := Go.Lib.hid hg
  have HE := Go.Lib.hid henv
  clear hg henv
  have q0_0 : w.cell? ⟨bth, 0, none⟩ = some (.func (.func ght) #[] cht) := HE.out.cell 0 0 rfl rfl
  have q1_0 : w.cell? ⟨bj, 0, none⟩ = some (.pointer (some ⟨jb, 0, none⟩)) := HE.out.cell 1 0 rfl rfl
  have q2_0 : w.cell? ⟨jb, 0, none⟩ = some (.pointer (some ⟨E.k, 0, none⟩)) := HE.out.cell 2 0 rfl rfl
  have q2_1 : w.cell? ⟨jb, 1, none⟩ = some (.int .i64 wk) := HE.out.cell 2 1 rfl rfl
  have q2_2 : w.cell? ⟨jb, 2, none⟩ = some (.int .i64 s) := HE.out.cell 2 2 rfl rfl
  have q2_3 : w.cell? ⟨jb, 3, none⟩ = some (.int .i64 n) := HE.out.cell 2 3 rfl rfl
  have q2_4 : w.cell? ⟨jb, 4, none⟩ = some (.int .i64 g) := HE.out.cell 2 4 rfl rfl
  have q2_5 : w.cell? ⟨jb, 5, none⟩ = some (vk) := HE.out.cell 2 5 rfl rfl
  go_enter Tryz.func215, Tryz.ntmps215
  go_wp2_with fail
  refine (HSO.out _).mono ?_
  rintro e w1 ⟨rfl, hb⟩
  clear q0_0 q1_0 q2_0 q2_1 q2_2 q2_3 q2_4 q2_5
  replace HG := Go.Lib.hid (HG.out.below hb)
  replace HE := Go.Lib.hid (HE.out.ext (below_ext hb t L))
  replace HD := Go.Lib.hid (HD.out.trans (below_did hb t L))
  replace HXT := Go.Lib.hid (HXT.out.trans (below_ext hb t L))
  clear hb
  have q0_0 : w1.cell? ⟨bth, 0, none⟩ = some (.func (.func ght) #[] cht) := HE.out.cell 0 0 rfl rfl
  have q1_0 : w1.cell? ⟨bj, 0, none⟩ = some (.pointer (some ⟨jb, 0, none⟩)) := HE.out.cell 1 0 rfl rfl
  have q2_0 : w1.cell? ⟨jb, 0, none⟩ = some (.pointer (some ⟨E.k, 0, none⟩)) := HE.out.cell 2 0 rfl rfl
  have q2_1 : w1.cell? ⟨jb, 1, none⟩ = some (.int .i64 wk) := HE.out.cell 2 1 rfl rfl
  have q2_2 : w1.cell? ⟨jb, 2, none⟩ = some (.int .i64 s) := HE.out.cell 2 2 rfl rfl
  have q2_3 : w1.cell? ⟨jb, 3, none⟩ = some (.int .i64 n) := HE.out.cell 2 3 rfl rfl
  have q2_4 : w1.cell? ⟨jb, 4, none⟩ = some (.int .i64 g) := HE.out.cell 2 4 rfl rfl
  have q2_5 : w1.cell? ⟨jb, 5, none⟩ = some (vk) := HE.out.cell 2 5 rfl rfl
  have hb : Below w1.heap.size w1 (w1.alloc (.cells #[.int .i64 gn, .int .i64 tm, .int .i64 sm] 105)) := (Below.refl _ _).alloc (Nat.le_refl _) _
  have HE0 := Go.Lib.hid (Env.alloc_at HE.out (fun b hb => HG.out.new b hb) [.int .i64 gn, .int .i64 tm, .int .i64 sm] 105 (b := w1.heap.size) rfl)
  have n0_0 : (w1.alloc (.cells #[.int .i64 gn, .int .i64 tm, .int .i64 sm] 105)).cell? ⟨bth, 0, none⟩ = some (.func (.func ght) #[] cht) := below_cell hb q0_0
  have n1_0 : (w1.alloc (.cells #[.int .i64 gn, .int .i64 tm, .int .i64 sm] 105)).cell? ⟨bj, 0, none⟩ = some (.pointer (some ⟨jb, 0, none⟩)) := below_cell hb q1_0
  have n2_0 : (w1.alloc (.cells #[.int .i64 gn, .int .i64 tm, .int .i64 sm] 105)).cell? ⟨jb, 0, none⟩ = some (.pointer (some ⟨E.k, 0, none⟩)) := below_cell hb q2_0
  have n2_1 : (w1.alloc (.cells #[.int .i64 gn, .int .i64 tm, .int .i64 sm] 105)).cell? ⟨jb, 1, none⟩ = some (.int .i64 wk) := below_cell hb q2_1
  have n2_2 : (w1.alloc (.cells #[.int .i64 gn, .int .i64 tm, .int .i64 sm] 105)).cell? ⟨jb, 2, none⟩ = some (.int .i64 s) := below_cell hb q2_2
  have n2_3 : (w1.alloc (.cells #[.int .i64 gn, .int .i64 tm, .int .i64 sm] 105)).cell? ⟨jb, 3, none⟩ = some (.int .i64 n) := below_cell hb q2_3
  have n2_4 : (w1.alloc (.cells #[.int .i64 gn, .int .i64 tm, .int .i64 sm] 105)).cell? ⟨jb, 4, none⟩ = some (.int .i64 g) := below_cell hb q2_4
  have n2_5 : (w1.alloc (.cells #[.int .i64 gn, .int .i64 tm, .int .i64 sm] 105)).cell? ⟨jb, 5, none⟩ = some (vk) := below_cell hb q2_5
  go_wp2
  clear n0_0 n1_0 n2_0 n2_1 n2_2 n2_3 n2_4 n2_5 q0_0 q1_0 q2_0 q2_1 q2_2 q2_3 q2_4 q2_5
  generalize (w1.alloc (.cells #[.int .i64 gn, .int .i64 tm, .int .i64 sm] 105)) = w2 at *
  replace HG := Go.Lib.hid (HG.out.below hb)
  replace HE := Go.Lib.hid (HE0.out)
  replace HD := Go.Lib.hid (HD.out.trans (below_did hb t L))
  replace HXT := Go.Lib.hid (HXT.out.trans (below_ext hb t L))
  clear hb HE0
  have q0_0 : w2.cell? ⟨w1.heap.size, 0, none⟩ = some (.int .i64 gn) := HE.out.cell 0 0 rfl rfl
  have q0_1 : w2.cell? ⟨w1.heap.size, 1, none⟩ = some (.int .i64 tm) := HE.out.cell 0 1 rfl rfl
  have q0_2 : w2.cell? ⟨w1.heap.size, 2, none⟩ = some (.int .i64 sm) := HE.out.cell 0 2 rfl rfl
  have q1_0 : w2.cell? ⟨bth, 0, none⟩ = some (.func (.func ght) #[] cht) := HE.out.cell 1 0 rfl rfl
  have q2_0 : w2.cell? ⟨bj, 0, none⟩ = some (.pointer (some ⟨jb, 0, none⟩)) := HE.out.cell 2 0 rfl rfl
  have q3_0 : w2.cell? ⟨jb, 0, none⟩ = some (.pointer (some ⟨E.k, 0, none⟩)) := HE.out.cell 3 0 rfl rfl
  have q3_1 : w2.cell? ⟨jb, 1, none⟩ = some (.int .i64 wk) := HE.out.cell 3 1 rfl rfl
  have q3_2 : w2.cell? ⟨jb, 2, none⟩ = some (.int .i64 s) := HE.out.cell 3 2 rfl rfl
  have q3_3 : w2.cell? ⟨jb, 3, none⟩ = some (.int .i64 n) := HE.out.cell 3 3 rfl rfl
  have q3_4 : w2.cell? ⟨jb, 4, none⟩ = some (.int .i64 g) := HE.out.cell 3 4 rfl rfl
  have q3_5 : w2.cell? ⟨jb, 5, none⟩ = some (vk) := HE.out.cell 3 5 rfl rfl
  have q0_0' : ∀ d os, (Sort.grow (redrawn w2 d) os).cell? ⟨w1.heap.size, 0, none⟩ = some (.int .i64 gn) := fun d os => cell_regrown q0_0 d os
  have q0_1' : ∀ d os, (Sort.grow (redrawn w2 d) os).cell? ⟨w1.heap.size, 1, none⟩ = some (.int .i64 tm) := fun d os => cell_regrown q0_1 d os
  have q0_2' : ∀ d os, (Sort.grow (redrawn w2 d) os).cell? ⟨w1.heap.size, 2, none⟩ = some (.int .i64 sm) := fun d os => cell_regrown q0_2 d os
  have q1_0' : ∀ d os, (Sort.grow (redrawn w2 d) os).cell? ⟨bth, 0, none⟩ = some (.func (.func ght) #[] cht) := fun d os => cell_regrown q1_0 d os
  have q2_0' : ∀ d os, (Sort.grow (redrawn w2 d) os).cell? ⟨bj, 0, none⟩ = some (.pointer (some ⟨jb, 0, none⟩)) := fun d os => cell_regrown q2_0 d os
  have q3_0' : ∀ d os, (Sort.grow (redrawn w2 d) os).cell? ⟨jb, 0, none⟩ = some (.pointer (some ⟨E.k, 0, none⟩)) := fun d os => cell_regrown q3_0 d os
  have q3_1' : ∀ d os, (Sort.grow (redrawn w2 d) os).cell? ⟨jb, 1, none⟩ = some (.int .i64 wk) := fun d os => cell_regrown q3_1 d os
  have q3_2' : ∀ d os, (Sort.grow (redrawn w2 d) os).cell? ⟨jb, 2, none⟩ = some (.int .i64 s) := fun d os => cell_regrown q3_2 d os
  have q3_3' : ∀ d os, (Sort.grow (redrawn w2 d) os).cell? ⟨jb, 3, none⟩ = some (.int .i64 n) := fun d os => cell_regrown q3_3 d os
  have q3_4' : ∀ d os, (Sort.grow (redrawn w2 d) os).cell? ⟨jb, 4, none⟩ = some (.int .i64 g) := fun d os => cell_regrown q3_4 d os
  have q3_5' : ∀ d os, (Sort.grow (redrawn w2 d) os).cell? ⟨jb, 5, none⟩ = some (vk) := fun d os => cell_regrown q3_5 d os
  refine wp_region_below_tail 16 (by kernel_rfl) (by kernel_rfl) ?_
  simp only [List.take_succ_cons, List.take_zero, List.drop_succ_cons, List.drop_zero]
  repeat (go_big_quiet_step (first
    | fail))
  refine wpQuiet_nil ?_
  intro w3 hw'
  obtain ⟨p, rfl⟩ := hw'
  have hb := below_regrown w2 p.d p.os
  clear q0_0' q0_1' q0_2' q1_0' q2_0' q3_0' q3_1' q3_2' q3_3' q3_4' q3_5' q0_0 q0_1 q0_2 q1_0 q2_0 q3_0 q3_1 q3_2 q3_3 q3_4 q3_5
  generalize Sort.grow (redrawn w2 p.d) p.os = w3 at *
  replace HG := Go.Lib.hid (HG.out.below hb)
  replace HE := Go.Lib.hid (HE.out.ext (below_ext hb t L))
  replace HD := Go.Lib.hid (HD.out.trans (below_did hb t L))
  replace HXT := Go.Lib.hid (HXT.out.trans (below_ext hb t L))
  clear hb
  have q0_0 : w3.cell? ⟨w1.heap.size, 0, none⟩ = some (.int .i64 gn) := HE.out.cell 0 0 rfl rfl
  have q0_1 : w3.cell? ⟨w1.heap.size, 1, none⟩ = some (.int .i64 tm) := HE.out.cell 0 1 rfl rfl
  have q0_2 : w3.cell? ⟨w1.heap.size, 2, none⟩ = some (.int .i64 sm) := HE.out.cell 0 2 rfl rfl
  have q1_0 : w3.cell? ⟨bth, 0, none⟩ = some (.func (.func ght) #[] cht) := HE.out.cell 1 0 rfl rfl
  have q2_0 : w3.cell? ⟨bj, 0, none⟩ = some (.pointer (some ⟨jb, 0, none⟩)) := HE.out.cell 2 0 rfl rfl
  have q3_0 : w3.cell? ⟨jb, 0, none⟩ = some (.pointer (some ⟨E.k, 0, none⟩)) := HE.out.cell 3 0 rfl rfl
  have q3_1 : w3.cell? ⟨jb, 1, none⟩ = some (.int .i64 wk) := HE.out.cell 3 1 rfl rfl
  have q3_2 : w3.cell? ⟨jb, 2, none⟩ = some (.int .i64 s) := HE.out.cell 3 2 rfl rfl
  have q3_3 : w3.cell? ⟨jb, 3, none⟩ = some (.int .i64 n) := HE.out.cell 3 3 rfl rfl
  have q3_4 : w3.cell? ⟨jb, 4, none⟩ = some (.int .i64 g) := HE.out.cell 3 4 rfl rfl
  have q3_5 : w3.cell? ⟨jb, 5, none⟩ = some (vk) := HE.out.cell 3 5 rfl rfl
  have HC := Go.Lib.hid (HCT.out _ _ HXT.out HG.out)
  go_wp2_with (go_at_fn ght; refine (HC.out).mono ?_; rintro e w9 ⟨v2, L9, rfl, hd2, hg2, hc2⟩)
  go_ret
  exact ⟨v2, L9, rfl, HD.out.trans hd2, hg2, hc2⟩
theorem arm1_con {m : Nat} {wk n g s : Int} {vk vt : Value} {r : PR ρ} {L : Lab} {w : World} {jb bj bth : Nat} (henv : Env L w [(bth, [vt]), (bj, [.pointer (some ⟨jb, 0, none⟩)]), (jb, [.pointer (some ⟨E.k, 0, none⟩), .int .i64 wk, .int .i64 s, .int .i64 n, .int .i64 g, vk])]) (ht : ArmSim R0 E t g m L w vt r) :
    ConSim E.cf (prApp E.cf R0) E t isW m L w (.func (.func 215) #[] #[.pointer (some ⟨bth, 0, none⟩), .pointer (some ⟨bj, 0, none⟩)]) (.ret r) := by
  refine ⟨_, _, rfl, enters_of Tryz.func215 (by kernel_rfl) rfl, ?_⟩
  intro a L' w' S ha hx hg hbd
  cases a with
  | w x =>
    show Calls _ _ #[_, _, _] _ _
    rw [app_ret] at hbd ⊢
    by_cases h1 : part x 0 2 = 1
    · by_cases h2 : ((part x 32 32 : Nat) : Int) = g
      · exact arm1_yes hg (henv.ext hx) (ht.ext hx) ha hbd (decide_eq_true ⟨h1, h2⟩) h1 h2
      · exact arm1_no2 hg (henv.ext hx) (ht.ext hx) ha hbd (decide_eq_false fun q => h2 q.2) h1 h2
    · exact arm1_no1 hg (henv.ext hx) (ht.ext hx) ha hbd (decide_eq_false fun q => h1 q.1) h1
  | _ => exact absurd ha (by simp [isW])
set_option maxHeartbeats 4000000 in
theorem mg_armed (hR : RMono (prApp E.cf R0)) {m : Nat} {wk n g s : Int} {vk vt : Value} {r : PR ρ} {L : Lab} {w : World} {S : St} {jb : Nat} (hg : Good E L S w) (henv : Env L w [(jb, [.pointer (some ⟨E.k, 0, none⟩), .int .i64 wk, .int .i64 s, .int .i64 n, .int .i64 g, vk])]) (ht : ArmSim R0 E t g m L w vt r) :
    Calls Tryz.prog 141 #[.pointer (some ⟨jb, 0, none⟩), vt] w (Post E.cf (prApp E.cf R0) E t m L w (S, some (.load (E.cf.state n) (.ret r)))) := by
  have HXT := Go.Lib.hid (Ext.refl t L w)
  obtain ⟨ght, cht, hvt, hgt, _⟩ := id ht
  subst hvt
  have HAS := Go.Lib.hid ht
  clear ht
  have HD := Go.Lib.hid (Did.refl t L w)
  have HG := Go.Lib.hid hg
  have HE := Go.Lib.hid henv
  clear hg henv
  have hb0 : Below w.heap.size w ((w.alloc (.cells #[.pointer (some ⟨jb, 0, none⟩)] 176)).alloc (.cells #[.func (.func ght) #[] cht] 63)) := (((Below.refl _ _).alloc (Nat.le_refl _) _).alloc (by first | (simp; done) | (simp; omega)) _)
  have HE0 : Hid (Env L ((w.alloc (.cells #[.pointer (some ⟨jb, 0, none⟩)] 176)).alloc (.cells #[.func (.func ght) #[] cht] 63)) [(w.heap.size + 1, [.func (.func ght) #[] cht]), (w.heap.size, [.pointer (some ⟨jb, 0, none⟩)]), (jb, [.pointer (some ⟨E.k, 0, none⟩), .int .i64 wk, .int .i64 s, .int .i64 n, .int .i64 g, vk])]) := Go.Lib.hid (Env.alloc_at (Env.alloc_at HE.out (fun b hb => HG.out.new b (by first | exact hb | (simp at hb; omega))) [.pointer (some ⟨jb, 0, none⟩)] 176 (b := w.heap.size) (by first | rfl | (simp; done) | (simp; omega))) (fun b hb => HG.out.new b (by first | exact hb | (simp at hb; omega))) [.func (.func ght) #[] cht] 63 (b := w.heap.size + 1) (by first | rfl | (simp; done) | (simp; omega)))
  replace HG := Go.Lib.hid (HG.out.below hb0)
  replace HE := Go.Lib.hid (HE0.out)
  replace HD := Go.Lib.hid (HD.out.trans (below_did hb0 t L))
  replace HXT := Go.Lib.hid (HXT.out.trans (below_ext hb0 t L))
  clear hb0 HE0
  have q0_0 : ((w.alloc (.cells #[.pointer (some ⟨jb, 0, none⟩)] 176)).alloc (.cells #[.func (.func ght) #[] cht] 63)).cell? ⟨w.heap.size + 1, 0, none⟩ = some (.func (.func ght) #[] cht) := HE.out.cell 0 0 rfl rfl
  have q1_0 : ((w.alloc (.cells #[.pointer (some ⟨jb, 0, none⟩)] 176)).alloc (.cells #[.func (.func ght) #[] cht] 63)).cell? ⟨w.heap.size, 0, none⟩ = some (.pointer (some ⟨jb, 0, none⟩)) := HE.out.cell 1 0 rfl rfl
  have q2_0 : ((w.alloc (.cells #[.pointer (some ⟨jb, 0, none⟩)] 176)).alloc (.cells #[.func (.func ght) #[] cht] 63)).cell? ⟨jb, 0, none⟩ = some (.pointer (some ⟨E.k, 0, none⟩)) := HE.out.cell 2 0 rfl rfl
  have q2_1 : ((w.alloc (.cells #[.pointer (some ⟨jb, 0, none⟩)] 176)).alloc (.cells #[.func (.func ght) #[] cht] 63)).cell? ⟨jb, 1, none⟩ = some (.int .i64 wk) := HE.out.cell 2 1 rfl rfl
  have q2_2 : ((w.alloc (.cells #[.pointer (some ⟨jb, 0, none⟩)] 176)).alloc (.cells #[.func (.func ght) #[] cht] 63)).cell? ⟨jb, 2, none⟩ = some (.int .i64 s) := HE.out.cell 2 2 rfl rfl
  have q2_3 : ((w.alloc (.cells #[.pointer (some ⟨jb, 0, none⟩)] 176)).alloc (.cells #[.func (.func ght) #[] cht] 63)).cell? ⟨jb, 3, none⟩ = some (.int .i64 n) := HE.out.cell 2 3 rfl rfl
  have q2_4 : ((w.alloc (.cells #[.pointer (some ⟨jb, 0, none⟩)] 176)).alloc (.cells #[.func (.func ght) #[] cht] 63)).cell? ⟨jb, 4, none⟩ = some (.int .i64 g) := HE.out.cell 2 4 rfl rfl
  have q2_5 : ((w.alloc (.cells #[.pointer (some ⟨jb, 0, none⟩)] 176)).alloc (.cells #[.func (.func ght) #[] cht] 63)).cell? ⟨jb, 5, none⟩ = some (vk) := HE.out.cell 2 5 rfl rfl
  go_enter Tryz.func141, Tryz.ntmps141
  go_wp2
  generalize ((w.alloc (.cells #[.pointer (some ⟨jb, 0, none⟩)] 176)).alloc (.cells #[.func (.func ght) #[] cht] 63)) = w0 at *
  have HCE := Go.Lib.hid (arm_cells HG.out)
  have HPL := Go.Lib.hid (arm_plan HG.out)
  have HSA := Go.Lib.hid (arm_state HG.out n)
  have q0_0' : ∀ d os, (Sort.grow (redrawn w0 d) os).cell? ⟨w.heap.size + 1, 0, none⟩ = some (.func (.func ght) #[] cht) := fun d os => cell_regrown q0_0 d os
  have q1_0' : ∀ d os, (Sort.grow (redrawn w0 d) os).cell? ⟨w.heap.size, 0, none⟩ = some (.pointer (some ⟨jb, 0, none⟩)) := fun d os => cell_regrown q1_0 d os
  have q2_0' : ∀ d os, (Sort.grow (redrawn w0 d) os).cell? ⟨jb, 0, none⟩ = some (.pointer (some ⟨E.k, 0, none⟩)) := fun d os => cell_regrown q2_0 d os
  have q2_1' : ∀ d os, (Sort.grow (redrawn w0 d) os).cell? ⟨jb, 1, none⟩ = some (.int .i64 wk) := fun d os => cell_regrown q2_1 d os
  have q2_2' : ∀ d os, (Sort.grow (redrawn w0 d) os).cell? ⟨jb, 2, none⟩ = some (.int .i64 s) := fun d os => cell_regrown q2_2 d os
  have q2_3' : ∀ d os, (Sort.grow (redrawn w0 d) os).cell? ⟨jb, 3, none⟩ = some (.int .i64 n) := fun d os => cell_regrown q2_3 d os
  have q2_4' : ∀ d os, (Sort.grow (redrawn w0 d) os).cell? ⟨jb, 4, none⟩ = some (.int .i64 g) := fun d os => cell_regrown q2_4 d os
  have q2_5' : ∀ d os, (Sort.grow (redrawn w0 d) os).cell? ⟨jb, 5, none⟩ = some (vk) := fun d os => cell_regrown q2_5 d os
  refine wp_region_below_tail 17 (by kernel_rfl) (by kernel_rfl) ?_
  simp only [List.take_succ_cons, List.take_zero, List.drop_succ_cons, List.drop_zero]
  repeat (go_big_quiet_step (first
    | (go_at_call 44; rename_i p; exact Calls.regrown_of (HCE.out _ (below_regrown w0 p.d p.os)))
    | (go_at_call 47; rename_i p; exact Calls.regrown_of (HPL.out _ (below_regrown w0 p.d p.os)))
    | (go_at_call 139; rename_i p; exact Calls.regrown_of (HSA.out _ (below_regrown w0 p.d p.os)))))
  refine wpQuiet_nil ?_
  intro w1 hw'
  obtain ⟨p, rfl⟩ := hw'
  have hb := below_regrown w0 p.d p.os
  clear q0_0' q1_0' q2_0' q2_1' q2_2' q2_3' q2_4' q2_5' q0_0 q1_0 q2_0 q2_1 q2_2 q2_3 q2_4 q2_5
  generalize Sort.grow (redrawn w0 p.d) p.os = w1 at *
  replace HG := Go.Lib.hid (HG.out.below hb)
  replace HE := Go.Lib.hid (HE.out.ext (below_ext hb t L))
  replace HD := Go.Lib.hid (HD.out.trans (below_did hb t L))
  replace HXT := Go.Lib.hid (HXT.out.trans (below_ext hb t L))
  clear hb
  have q0_0 : w1.cell? ⟨w.heap.size + 1, 0, none⟩ = some (.func (.func ght) #[] cht) := HE.out.cell 0 0 rfl rfl
  have q1_0 : w1.cell? ⟨w.heap.size, 0, none⟩ = some (.pointer (some ⟨jb, 0, none⟩)) := HE.out.cell 1 0 rfl rfl
  have q2_0 : w1.cell? ⟨jb, 0, none⟩ = some (.pointer (some ⟨E.k, 0, none⟩)) := HE.out.cell 2 0 rfl rfl
  have q2_1 : w1.cell? ⟨jb, 1, none⟩ = some (.int .i64 wk) := HE.out.cell 2 1 rfl rfl
  have q2_2 : w1.cell? ⟨jb, 2, none⟩ = some (.int .i64 s) := HE.out.cell 2 2 rfl rfl
  have q2_3 : w1.cell? ⟨jb, 3, none⟩ = some (.int .i64 n) := HE.out.cell 2 3 rfl rfl
  have q2_4 : w1.cell? ⟨jb, 4, none⟩ = some (.int .i64 g) := HE.out.cell 2 4 rfl rfl
  have q2_5 : w1.cell? ⟨jb, 5, none⟩ = some (vk) := HE.out.cell 2 5 rfl rfl
  have HT := Go.Lib.hid (load_at hR (i := E.cf.state n) HG.out (arm1_con (r := r) (HE.out.sub (env' := [(w.heap.size + 1, [.func (.func ght) #[] cht]), (w.heap.size, [.pointer (some ⟨jb, 0, none⟩)]), (jb, [.pointer (some ⟨E.k, 0, none⟩), .int .i64 wk, .int .i64 s, .int .i64 n, .int .i64 g, vk])]) (by simp)) (HAS.out.ext HXT.out)))
  go_wp2_with fail
  refine (HT.out).mono ?_
  rintro e w9 ⟨v2, L9, rfl, hd2, hg2, hc2⟩
  go_wp2
  go_ret
  exact ⟨v2, L9, rfl, HD.out.trans hd2, hg2, hc2⟩
end
end Go.Proofs.YtgemjjpmoejgdaaGreat
