/- A Cancel, as code. -/
import Derived.Test.YtgemjjpmoejgdaaGreatHrq
namespace Go.Proofs.YtgemjjpmoejgdaaGreat
open Go.RowKit
set_option maxRecDepth 100000
set_option linter.unusedVariables false

section
variable {ρ : Type} {R0 : ρ → Arg → St → St × Option (K (PR ρ))} {E : G} {t : Nat}
set_option maxHeartbeats 2000000 in
theorem cn3_call (hR : RMono (prApp E.cf R0)) {m : Nat} {vk : Value} {k : PR ρ} {L : Lab} {w : World} {S : St} {bv : Nat} (hg : Good E L S w) (henv : Env L w [(bv, [vk])]) (hk : ConSim E.cf (prApp E.cf R0) E t isB m L w vk (.ret k)) (hbd : Bd (prApp E.cf R0 k (.b true) S).1) :
    Calls Tryz.prog 160 #[.pointer (some ⟨bv, 0, none⟩)] w (Post E.cf (prApp E.cf R0) E t m L w (prApp E.cf R0 k (.b true) S)) := by
  have HD := Go.Lib.hid (Did.refl t L w)
  have HG := Go.Lib.hid hg
  have HE := Go.Lib.hid henv
  obtain ⟨ghk, chk, hvhk, hgfhk, _⟩ := id hk
  subst hvhk
  have henhk : ∀ (args : Array Value) (w : World), (callFunc ghk args).run Tryz.prog w = .ok (.enter ghk args) w := hgfhk
  have Hhk := Go.Lib.hid hk
  clear hg henv hk hgfhk
  have q0_0 : w.cell? ⟨bv, 0, none⟩ = some (.func (.func ghk) #[] chk) := HE.out.cell 0 0 rfl rfl
  go_enter Tryz.func160, Tryz.ntmps160
  skip
  have HC : Hid (Calls Tryz.prog ghk ((Arg.vals (.b true)) ++ chk) w (Post E.cf (prApp E.cf R0) E t m L w (prApp E.cf R0 k (.b true) (S)))) := Go.Lib.hid (Hhk.out.call (a := .b true) trivial HG.out hbd)
  clear hbd
  generalize prApp E.cf R0 k (.b true) (S) = rr at *
  go_wp2_with (go_at_fn ghk; refine (HC.out).mono ?_; rintro e w9 ⟨v2, L9, rfl, hd2, hg2, hc2⟩)
  go_ret
  exact ⟨v2, L9, rfl, HD.out.trans hd2, hg2, hc2⟩
theorem cn3_con (hR : RMono (prApp E.cf R0)) {m : Nat} {vk : Value} {k : PR ρ} {L : Lab} {w : World} {bv : Nat} (henv : Env L w [(bv, [vk])]) (hk : ConSim E.cf (prApp E.cf R0) E t isB m L w vk (.ret k))  :
    ConSim E.cf (prApp E.cf R0) E t isU m L w (.func (.func 160) #[] #[.pointer (some ⟨bv, 0, none⟩)]) (.ret (.cn3 k)) := by
  refine ⟨_, _, rfl, enters_of Tryz.func160 (by kernel_rfl) rfl, ?_⟩
  intro a L' w' S ha hx hg hbd
  cases a with
  | u =>
    show Calls _ _ #[_] _ _
    exact cn3_call hR hg (henv.ext hx) (ConSim.ext E.cf (prApp E.cf R0) E t hk hx) hbd
  | _ => exact absurd ha (by simp [isU])
set_option maxHeartbeats 2000000 in
theorem cn2_no (hR : RMono (prApp E.cf R0)) {m : Nat} {wk n g : Int} {vk : Value} {k : PR ρ} {L : Lab} {w : World} {S : St} {bk bw bh bv : Nat} (hg : Good E L S w) (henv : Env L w [(bk, [.pointer (some ⟨E.k, 0, none⟩)]), (bw, [.int .i64 wk]), (bh, [.int .i64 n, .int .i64 g]), (bv, [vk])]) (hk : ConSim E.cf (prApp E.cf R0) E t isB m L w vk (.ret k)) (hw : 0 ≤ wk) (hbd : Bd (prApp E.cf R0 k (.b false) (S.note (cancelPoint wk n g false))).1) :
    Calls Tryz.prog 158 #[.bool false, .pointer (some ⟨bk, 0, none⟩), .pointer (some ⟨bw, 0, none⟩), .pointer (some ⟨bh, 0, none⟩), .pointer (some ⟨bv, 0, none⟩)] w (Post E.cf (prApp E.cf R0) E t m L w (prApp E.cf R0 k (.b false) (S.note (cancelPoint wk n g false)))) := by
  have hn := (Bd.of_mono hR hbd).of_note
  have HD := Go.Lib.hid (Did.refl t L w)
  have HG := Go.Lib.hid hg
  have HE := Go.Lib.hid henv
  obtain ⟨ghk, chk, hvhk, hgfhk, _⟩ := id hk
  subst hvhk
  have henhk : ∀ (args : Array Value) (w : World), (callFunc ghk args).run Tryz.prog w = .ok (.enter ghk args) w := hgfhk
  have Hhk := Go.Lib.hid hk
  clear hg henv hk hgfhk
  have q0_0 : w.cell? ⟨bk, 0, none⟩ = some (.pointer (some ⟨E.k, 0, none⟩)) := HE.out.cell 0 0 rfl rfl
  have q1_0 : w.cell? ⟨bw, 0, none⟩ = some (.int .i64 wk) := HE.out.cell 1 0 rfl rfl
  have q2_0 : w.cell? ⟨bh, 0, none⟩ = some (.int .i64 n) := HE.out.cell 2 0 rfl rfl
  have q2_1 : w.cell? ⟨bh, 1, none⟩ = some (.int .i64 g) := HE.out.cell 2 1 rfl rfl
  have q3_0 : w.cell? ⟨bv, 0, none⟩ = some (.func (.func ghk) #[] chk) := HE.out.cell 3 0 rfl rfl
  go_enter Tryz.func158, Tryz.ntmps158
  go_wp2_with fail
  refine (core_note_any HG.out hn 3 wk 2 n g 0 0 0 0 0 0 false (fun w => cancelN_right wk n g hw w)).mono ?_
  rintro e w1 ⟨L1, rfl, hno⟩
  clear q0_0 q1_0 q2_0 q2_1 q3_0
  replace HG := Go.Lib.hid (hno.good)
  replace HE := Go.Lib.hid (HE.out.ext (hno.shr.ext t))
  replace Hhk := Go.Lib.hid (ConSim.ext E.cf (prApp E.cf R0) E t Hhk.out (hno.shr.ext t))
  replace HD := Go.Lib.hid (HD.out.trans (hno.shr.did t))
  clear hno
  have q0_0 : w1.cell? ⟨bk, 0, none⟩ = some (.pointer (some ⟨E.k, 0, none⟩)) := HE.out.cell 0 0 rfl rfl
  have q1_0 : w1.cell? ⟨bw, 0, none⟩ = some (.int .i64 wk) := HE.out.cell 1 0 rfl rfl
  have q2_0 : w1.cell? ⟨bh, 0, none⟩ = some (.int .i64 n) := HE.out.cell 2 0 rfl rfl
  have q2_1 : w1.cell? ⟨bh, 1, none⟩ = some (.int .i64 g) := HE.out.cell 2 1 rfl rfl
  have q3_0 : w1.cell? ⟨bv, 0, none⟩ = some (.func (.func ghk) #[] chk) := HE.out.cell 3 0 rfl rfl
  have HC : Hid (Calls Tryz.prog ghk ((Arg.vals (.b false)) ++ chk) w1 (Post E.cf (prApp E.cf R0) E t m L1 w1 (prApp E.cf R0 k (.b false) (S.note (cancelPoint wk n g false))))) := Go.Lib.hid (Hhk.out.call (a := .b false) trivial HG.out hbd)
  clear hbd
  generalize prApp E.cf R0 k (.b false) (S.note (cancelPoint wk n g false)) = rr at *
  go_wp2_with (go_at_fn ghk; refine (HC.out).mono ?_; rintro e w9 ⟨v2, L9, rfl, hd2, hg2, hc2⟩)
  go_ret
  exact ⟨v2, L9, rfl, HD.out.trans hd2, hg2, hc2⟩
set_option maxHeartbeats 2000000 in
theorem cn2_yes (hR : RMono (prApp E.cf R0)) {m : Nat} {wk n g : Int} {vk : Value} {k : PR ρ} {L : Lab} {w : World} {S : St} {bk bw bh bv : Nat} (hg : Good E L S w) (henv : Env L w [(bk, [.pointer (some ⟨E.k, 0, none⟩)]), (bw, [.int .i64 wk]), (bh, [.int .i64 n, .int .i64 g]), (bv, [vk])]) (hk : ConSim E.cf (prApp E.cf R0) E t isB m L w vk (.ret k)) (hw : 0 ≤ wk) (hbd : Bd (S.note (cancelPoint wk n g true))) :
    Calls Tryz.prog 158 #[.bool true, .pointer (some ⟨bk, 0, none⟩), .pointer (some ⟨bw, 0, none⟩), .pointer (some ⟨bh, 0, none⟩), .pointer (some ⟨bv, 0, none⟩)] w (Post E.cf (prApp E.cf R0) E t m L w (((S.note (cancelPoint wk n g true)), some (pushK .nodes n (.ret (.cn3 k)))))) := by
  have hn := hbd.of_note
  have HD := Go.Lib.hid (Did.refl t L w)
  have HG := Go.Lib.hid hg
  have HE := Go.Lib.hid henv
  obtain ⟨ghk, chk, hvhk, hgfhk, _⟩ := id hk
  subst hvhk
  have henhk : ∀ (args : Array Value) (w : World), (callFunc ghk args).run Tryz.prog w = .ok (.enter ghk args) w := hgfhk
  have Hhk := Go.Lib.hid hk
  clear hg henv hk hgfhk
  have q0_0 : w.cell? ⟨bk, 0, none⟩ = some (.pointer (some ⟨E.k, 0, none⟩)) := HE.out.cell 0 0 rfl rfl
  have q1_0 : w.cell? ⟨bw, 0, none⟩ = some (.int .i64 wk) := HE.out.cell 1 0 rfl rfl
  have q2_0 : w.cell? ⟨bh, 0, none⟩ = some (.int .i64 n) := HE.out.cell 2 0 rfl rfl
  have q2_1 : w.cell? ⟨bh, 1, none⟩ = some (.int .i64 g) := HE.out.cell 2 1 rfl rfl
  have q3_0 : w.cell? ⟨bv, 0, none⟩ = some (.func (.func ghk) #[] chk) := HE.out.cell 3 0 rfl rfl
  go_enter Tryz.func158, Tryz.ntmps158
  go_wp2_with fail
  refine (core_note_any HG.out hn 3 wk 2 n g 0 0 0 0 0 0 true (fun w => cancelY_right wk n g hw w)).mono ?_
  rintro e w1 ⟨L1, rfl, hno⟩
  clear q0_0 q1_0 q2_0 q2_1 q3_0
  replace HG := Go.Lib.hid (hno.good)
  replace HE := Go.Lib.hid (HE.out.ext (hno.shr.ext t))
  replace Hhk := Go.Lib.hid (ConSim.ext E.cf (prApp E.cf R0) E t Hhk.out (hno.shr.ext t))
  replace HD := Go.Lib.hid (HD.out.trans (hno.shr.did t))
  clear hno
  have q0_0 : w1.cell? ⟨bk, 0, none⟩ = some (.pointer (some ⟨E.k, 0, none⟩)) := HE.out.cell 0 0 rfl rfl
  have q1_0 : w1.cell? ⟨bw, 0, none⟩ = some (.int .i64 wk) := HE.out.cell 1 0 rfl rfl
  have q2_0 : w1.cell? ⟨bh, 0, none⟩ = some (.int .i64 n) := HE.out.cell 2 0 rfl rfl
  have q2_1 : w1.cell? ⟨bh, 1, none⟩ = some (.int .i64 g) := HE.out.cell 2 1 rfl rfl
  have q3_0 : w1.cell? ⟨bv, 0, none⟩ = some (.func (.func ghk) #[] chk) := HE.out.cell 3 0 rfl rfl
  have HND := Go.Lib.hid (arm_nodes HG.out)
  go_wp2
  have q0_0' : ∀ d os, (Sort.grow (redrawn w1 d) os).cell? ⟨bk, 0, none⟩ = some (.pointer (some ⟨E.k, 0, none⟩)) := fun d os => cell_regrown q0_0 d os
  have q1_0' : ∀ d os, (Sort.grow (redrawn w1 d) os).cell? ⟨bw, 0, none⟩ = some (.int .i64 wk) := fun d os => cell_regrown q1_0 d os
  have q2_0' : ∀ d os, (Sort.grow (redrawn w1 d) os).cell? ⟨bh, 0, none⟩ = some (.int .i64 n) := fun d os => cell_regrown q2_0 d os
  have q2_1' : ∀ d os, (Sort.grow (redrawn w1 d) os).cell? ⟨bh, 1, none⟩ = some (.int .i64 g) := fun d os => cell_regrown q2_1 d os
  have q3_0' : ∀ d os, (Sort.grow (redrawn w1 d) os).cell? ⟨bv, 0, none⟩ = some (.func (.func ghk) #[] chk) := fun d os => cell_regrown q3_0 d os
  refine wp_region_below_tail 5 (by kernel_rfl) (by kernel_rfl) ?_
  simp only [List.take_succ_cons, List.take_zero, List.drop_succ_cons, List.drop_zero]
  repeat (go_big_quiet_step (first
    | (go_at_call 57; rename_i p; exact Calls.regrown_of (HND.out _ (below_regrown w1 p.d p.os)))))
  refine wpQuiet_nil ?_
  intro w2 hw'
  obtain ⟨p, rfl⟩ := hw'
  have hb := below_regrown w1 p.d p.os
  clear q0_0' q1_0' q2_0' q2_1' q3_0' q0_0 q1_0 q2_0 q2_1 q3_0
  generalize Sort.grow (redrawn w1 p.d) p.os = w2 at *
  replace HG := Go.Lib.hid (HG.out.below hb)
  replace HE := Go.Lib.hid (HE.out.ext (below_ext hb t L1))
  replace Hhk := Go.Lib.hid (ConSim.ext E.cf (prApp E.cf R0) E t Hhk.out (below_ext hb t L1))
  replace HD := Go.Lib.hid (HD.out.trans (below_did hb t L1))
  clear hb
  have q0_0 : w2.cell? ⟨bk, 0, none⟩ = some (.pointer (some ⟨E.k, 0, none⟩)) := HE.out.cell 0 0 rfl rfl
  have q1_0 : w2.cell? ⟨bw, 0, none⟩ = some (.int .i64 wk) := HE.out.cell 1 0 rfl rfl
  have q2_0 : w2.cell? ⟨bh, 0, none⟩ = some (.int .i64 n) := HE.out.cell 2 0 rfl rfl
  have q2_1 : w2.cell? ⟨bh, 1, none⟩ = some (.int .i64 g) := HE.out.cell 2 1 rfl rfl
  have q3_0 : w2.cell? ⟨bv, 0, none⟩ = some (.func (.func ghk) #[] chk) := HE.out.cell 3 0 rfl rfl
  have HT := Go.Lib.hid (push_nodes hR (i := n) HG.out (cn3_con (bv := bv) hR (HE.out.sub (env' := [(bv, [.func (.func ghk) #[] chk])]) (by simp)) Hhk.out))
  go_wp2_with fail
  refine (HT.out).mono ?_
  rintro e w9 ⟨v2, L9, rfl, hd2, hg2, hc2⟩
  go_wp2
  go_ret
  exact ⟨v2, L9, rfl, HD.out.trans hd2, hg2, hc2⟩
theorem cn2_con (hR : RMono (prApp E.cf R0)) {m : Nat} {wk n g : Int} {vk : Value} {k : PR ρ} {L : Lab} {w : World} {bk bw bh bv : Nat} (henv : Env L w [(bk, [.pointer (some ⟨E.k, 0, none⟩)]), (bw, [.int .i64 wk]), (bh, [.int .i64 n, .int .i64 g]), (bv, [vk])]) (hk : ConSim E.cf (prApp E.cf R0) E t isB m L w vk (.ret k)) (hw : 0 ≤ wk) :
    ConSim E.cf (prApp E.cf R0) E t isB m L w (.func (.func 158) #[] #[.pointer (some ⟨bk, 0, none⟩), .pointer (some ⟨bw, 0, none⟩), .pointer (some ⟨bh, 0, none⟩), .pointer (some ⟨bv, 0, none⟩)]) (.ret (.cn2 wk n g k)) := by
  refine ⟨_, _, rfl, enters_of Tryz.func158 (by kernel_rfl) rfl, ?_⟩
  intro a L' w' S ha hx hg hbd
  cases a with
  | b yes =>
    show Calls _ _ #[_, _, _, _, _] _ _
    cases yes with
    | true => exact cn2_yes hR hg (henv.ext hx) (ConSim.ext E.cf (prApp E.cf R0) E t hk hx) hw hbd
    | false => exact cn2_no hR hg (henv.ext hx) (ConSim.ext E.cf (prApp E.cf R0) E t hk hx) hw hbd
  | _ => exact absurd ha (by simp [isB])
set_option maxHeartbeats 2000000 in
theorem cn0_call (hR : RMono (prApp E.cf R0)) {m : Nat} {wk n g : Int} {vk : Value} {k : PR ρ} {L : Lab} {w : World} {S : St} {bt bk bw bh bv : Nat} (hg : Good E L S w) (henv : Env L w [(bt, [.func (.func 158) #[] #[.pointer (some ⟨bk, 0, none⟩), .pointer (some ⟨bw, 0, none⟩), .pointer (some ⟨bh, 0, none⟩), .pointer (some ⟨bv, 0, none⟩)]]), (bk, [.pointer (some ⟨E.k, 0, none⟩)]), (bw, [.int .i64 wk]), (bh, [.int .i64 n, .int .i64 g]), (bv, [vk])]) (hk : ConSim E.cf (prApp E.cf R0) E t isB m L w vk (.ret k)) (hw : 0 ≤ wk) (hbd : Bd (prApp E.cf R0 k (.b false) (S.note (cancelPoint wk n g false))).1) :
    Calls Tryz.prog 162 #[.pointer (some ⟨bt, 0, none⟩)] w (Post E.cf (prApp E.cf R0) E t m L w (prApp E.cf R0 k (.b false) (S.note (cancelPoint wk n g false)))) := by
  have HD := Go.Lib.hid (Did.refl t L w)
  have HG := Go.Lib.hid hg
  have HE := Go.Lib.hid henv
  obtain ⟨ghk, chk, hvhk, hgfhk, _⟩ := id hk
  subst hvhk
  have henhk : ∀ (args : Array Value) (w : World), (callFunc ghk args).run Tryz.prog w = .ok (.enter ghk args) w := hgfhk
  have Hhk := Go.Lib.hid hk
  clear hg henv hk hgfhk
  have hft : ∀ (args : Array Value) (w : World), (callFunc 158 args).run Tryz.prog w = .ok (.enter 158 args) w := enters_of Tryz.func158 (by kernel_rfl) rfl
  have q0_0 : w.cell? ⟨bt, 0, none⟩ = some (.func (.func 158) #[] #[.pointer (some ⟨bk, 0, none⟩), .pointer (some ⟨bw, 0, none⟩), .pointer (some ⟨bh, 0, none⟩), .pointer (some ⟨bv, 0, none⟩)]) := HE.out.cell 0 0 rfl rfl
  go_enter Tryz.func162, Tryz.ntmps162
  go_wp2_with fail
  refine (cn2_no hR HG.out (HE.out.sub (env' := [(bk, [.pointer (some ⟨E.k, 0, none⟩)]), (bw, [.int .i64 wk]), (bh, [.int .i64 n, .int .i64 g]), (bv, [.func (.func ghk) #[] chk])]) (by simp)) Hhk.out hw hbd).mono ?_
  rintro e w9 ⟨v2, L9, rfl, hd2, hg2, hc2⟩
  go_wp2
  go_ret
  exact ⟨v2, L9, rfl, HD.out.trans hd2, hg2, hc2⟩
theorem cn0_con (hR : RMono (prApp E.cf R0)) {m : Nat} {wk n g : Int} {vk : Value} {k : PR ρ} {L : Lab} {w : World} {bt bk bw bh bv : Nat} (henv : Env L w [(bt, [.func (.func 158) #[] #[.pointer (some ⟨bk, 0, none⟩), .pointer (some ⟨bw, 0, none⟩), .pointer (some ⟨bh, 0, none⟩), .pointer (some ⟨bv, 0, none⟩)]]), (bk, [.pointer (some ⟨E.k, 0, none⟩)]), (bw, [.int .i64 wk]), (bh, [.int .i64 n, .int .i64 g]), (bv, [vk])]) (hk : ConSim E.cf (prApp E.cf R0) E t isB m L w vk (.ret k)) (hw : 0 ≤ wk) :
    ConSim E.cf (prApp E.cf R0) E t isU m L w (.func (.func 162) #[] #[.pointer (some ⟨bt, 0, none⟩)]) (.ret (.cn0 wk n g k)) := by
  refine ⟨_, _, rfl, enters_of Tryz.func162 (by kernel_rfl) rfl, ?_⟩
  intro a L' w' S ha hx hg hbd
  cases a with
  | u =>
    show Calls _ _ #[_] _ _
    exact cn0_call hR hg (henv.ext hx) (ConSim.ext E.cf (prApp E.cf R0) E t hk hx) hw hbd
  | _ => exact absurd ha (by simp [isU])
set_option maxHeartbeats 2000000 in
theorem cn1_no (hR : RMono (prApp E.cf R0)) {m : Nat} {wk n g : Int} {vk : Value} {k : PR ρ} {L : Lab} {w : World} {S : St} {bt bk bw bh bv : Nat} {x : Nat} (hg : Good E L S w) (henv : Env L w [(bt, [.func (.func 158) #[] #[.pointer (some ⟨bk, 0, none⟩), .pointer (some ⟨bw, 0, none⟩), .pointer (some ⟨bh, 0, none⟩), .pointer (some ⟨bv, 0, none⟩)]]), (bk, [.pointer (some ⟨E.k, 0, none⟩)]), (bw, [.int .i64 wk]), (bh, [.int .i64 n, .int .i64 g]), (bv, [vk])]) (hk : ConSim E.cf (prApp E.cf R0) E t isB m L w vk (.ret k)) (hw : 0 ≤ wk) (hx64 : x < 18446744073709551616) (ha : armedW x g = false) (hbd : Bd (prApp E.cf R0 k (.b false) (S.note (cancelPoint wk n g false))).1) :
    Calls Tryz.prog 163 #[.int .u64 x, .pointer (some ⟨bh, 0, none⟩), .pointer (some ⟨bt, 0, none⟩), .pointer (some ⟨bk, 0, none⟩)] w (Post E.cf (prApp E.cf R0) E t m L w (prApp E.cf R0 k (.b false) (S.note (cancelPoint wk n g false)))) := by
  have HD := Go.Lib.hid (Did.refl t L w)
  have HG := Go.Lib.hid hg
  have HE := Go.Lib.hid henv
  obtain ⟨ghk, chk, hvhk, hgfhk, _⟩ := id hk
  subst hvhk
  have henhk : ∀ (args : Array Value) (w : World), (callFunc ghk args).run Tryz.prog w = .ok (.enter ghk args) w := hgfhk
  have Hhk := Go.Lib.hid hk
  clear hg henv hk hgfhk
  have hft : ∀ (args : Array Value) (w : World), (callFunc 158 args).run Tryz.prog w = .ok (.enter 158 args) w := enters_of Tryz.func158 (by kernel_rfl) rfl
  have HAR := Go.Lib.hid (fun w => chg_armed x n g w hx64)
  rw [ha] at HAR
  clear ha
  have q0_0 : w.cell? ⟨bt, 0, none⟩ = some (.func (.func 158) #[] #[.pointer (some ⟨bk, 0, none⟩), .pointer (some ⟨bw, 0, none⟩), .pointer (some ⟨bh, 0, none⟩), .pointer (some ⟨bv, 0, none⟩)]) := HE.out.cell 0 0 rfl rfl
  have q1_0 : w.cell? ⟨bk, 0, none⟩ = some (.pointer (some ⟨E.k, 0, none⟩)) := HE.out.cell 1 0 rfl rfl
  have q2_0 : w.cell? ⟨bw, 0, none⟩ = some (.int .i64 wk) := HE.out.cell 2 0 rfl rfl
  have q3_0 : w.cell? ⟨bh, 0, none⟩ = some (.int .i64 n) := HE.out.cell 3 0 rfl rfl
  have q3_1 : w.cell? ⟨bh, 1, none⟩ = some (.int .i64 g) := HE.out.cell 3 1 rfl rfl
  have q4_0 : w.cell? ⟨bv, 0, none⟩ = some (.func (.func ghk) #[] chk) := HE.out.cell 4 0 rfl rfl
  go_enter Tryz.func163, Tryz.ntmps163
  go_wp2_with fail
  refine (HAR.out _).mono ?_
  rintro e w1 ⟨rfl, hb⟩
  clear q0_0 q1_0 q2_0 q3_0 q3_1 q4_0
  replace HG := Go.Lib.hid (HG.out.below hb)
  replace HE := Go.Lib.hid (HE.out.ext (below_ext hb t L))
  replace Hhk := Go.Lib.hid (ConSim.ext E.cf (prApp E.cf R0) E t Hhk.out (below_ext hb t L))
  replace HD := Go.Lib.hid (HD.out.trans (below_did hb t L))
  clear hb
  have q0_0 : w1.cell? ⟨bt, 0, none⟩ = some (.func (.func 158) #[] #[.pointer (some ⟨bk, 0, none⟩), .pointer (some ⟨bw, 0, none⟩), .pointer (some ⟨bh, 0, none⟩), .pointer (some ⟨bv, 0, none⟩)]) := HE.out.cell 0 0 rfl rfl
  have q1_0 : w1.cell? ⟨bk, 0, none⟩ = some (.pointer (some ⟨E.k, 0, none⟩)) := HE.out.cell 1 0 rfl rfl
  have q2_0 : w1.cell? ⟨bw, 0, none⟩ = some (.int .i64 wk) := HE.out.cell 2 0 rfl rfl
  have q3_0 : w1.cell? ⟨bh, 0, none⟩ = some (.int .i64 n) := HE.out.cell 3 0 rfl rfl
  have q3_1 : w1.cell? ⟨bh, 1, none⟩ = some (.int .i64 g) := HE.out.cell 3 1 rfl rfl
  have q4_0 : w1.cell? ⟨bv, 0, none⟩ = some (.func (.func ghk) #[] chk) := HE.out.cell 4 0 rfl rfl
  go_wp2_with fail
  refine (cn2_no hR HG.out (HE.out.sub (env' := [(bk, [.pointer (some ⟨E.k, 0, none⟩)]), (bw, [.int .i64 wk]), (bh, [.int .i64 n, .int .i64 g]), (bv, [.func (.func ghk) #[] chk])]) (by simp)) Hhk.out hw hbd).mono ?_
  rintro e w9 ⟨v2, L9, rfl, hd2, hg2, hc2⟩
  go_wp2
  go_ret
  exact ⟨v2, L9, rfl, HD.out.trans hd2, hg2, hc2⟩
set_option maxHeartbeats 2000000 in
theorem cn1_yes (hR : RMono (prApp E.cf R0)) {m : Nat} {wk n g : Int} {vk : Value} {k : PR ρ} {L : Lab} {w : World} {S : St} {bt bk bw bh bv : Nat} {x : Nat} (hg : Good E L S w) (henv : Env L w [(bt, [.func (.func 158) #[] #[.pointer (some ⟨bk, 0, none⟩), .pointer (some ⟨bw, 0, none⟩), .pointer (some ⟨bh, 0, none⟩), .pointer (some ⟨bv, 0, none⟩)]]), (bk, [.pointer (some ⟨E.k, 0, none⟩)]), (bw, [.int .i64 wk]), (bh, [.int .i64 n, .int .i64 g]), (bv, [vk])]) (hk : ConSim E.cf (prApp E.cf R0) E t isB m L w vk (.ret k)) (hw : 0 ≤ wk) (hx64 : x < 18446744073709551616) (ha : armedW x g = true) :
    Calls Tryz.prog 163 #[.int .u64 x, .pointer (some ⟨bh, 0, none⟩), .pointer (some ⟨bt, 0, none⟩), .pointer (some ⟨bk, 0, none⟩)] w (Post E.cf (prApp E.cf R0) E t m L w ((S, some (.cas (E.cf.state n) x (stateWord (part x 32 32 : Nat) (part x 2 30 : Nat) 3) (.ret (.cn2 wk n g k)))))) := by
  have HD := Go.Lib.hid (Did.refl t L w)
  have HG := Go.Lib.hid hg
  have HE := Go.Lib.hid henv
  obtain ⟨ghk, chk, hvhk, hgfhk, _⟩ := id hk
  subst hvhk
  have henhk : ∀ (args : Array Value) (w : World), (callFunc ghk args).run Tryz.prog w = .ok (.enter ghk args) w := hgfhk
  have Hhk := Go.Lib.hid hk
  clear hg henv hk hgfhk
  have HAR := Go.Lib.hid (fun w => chg_armed x n g w hx64)
  rw [ha] at HAR
  clear ha
  have hg1 : part x 32 32 < 4294967296 := part_hi_lt x
  have hg2 : part x 2 30 < 1073741824 := part_mid_lt x
  have HSO := Go.Lib.hid (fun w => of_StateOf x w hx64)
  generalize part x 32 32 = gn at *
  generalize part x 2 30 = tm at *
  generalize part x 0 2 = sm at *
  have HWD := Go.Lib.hid (fun w => word_StateW (gn : Int) (tm : Int) 3 w (by omega) (by omega) (by omega))
  have HSL := Go.Lib.hid (stateWord_lt (gn : Nat) (tm : Nat) 3)
  generalize stateWord (gn : Int) (tm : Int) 3 = sw at *
  have q0_0 : w.cell? ⟨bt, 0, none⟩ = some (.func (.func 158) #[] #[.pointer (some ⟨bk, 0, none⟩), .pointer (some ⟨bw, 0, none⟩), .pointer (some ⟨bh, 0, none⟩), .pointer (some ⟨bv, 0, none⟩)]) := HE.out.cell 0 0 rfl rfl
  have q1_0 : w.cell? ⟨bk, 0, none⟩ = some (.pointer (some ⟨E.k, 0, none⟩)) := HE.out.cell 1 0 rfl rfl
  have q2_0 : w.cell? ⟨bw, 0, none⟩ = some (.int .i64 wk) := HE.out.cell 2 0 rfl rfl
  have q3_0 : w.cell? ⟨bh, 0, none⟩ = some (.int .i64 n) := HE.out.cell 3 0 rfl rfl
  have q3_1 : w.cell? ⟨bh, 1, none⟩ = some (.int .i64 g) := HE.out.cell 3 1 rfl rfl
  have q4_0 : w.cell? ⟨bv, 0, none⟩ = some (.func (.func ghk) #[] chk) := HE.out.cell 4 0 rfl rfl
  go_enter Tryz.func163, Tryz.ntmps163
  go_wp2_with fail
  refine (HAR.out _).mono ?_
  rintro e w1 ⟨rfl, hb⟩
  clear q0_0 q1_0 q2_0 q3_0 q3_1 q4_0
  replace HG := Go.Lib.hid (HG.out.below hb)
  replace HE := Go.Lib.hid (HE.out.ext (below_ext hb t L))
  replace Hhk := Go.Lib.hid (ConSim.ext E.cf (prApp E.cf R0) E t Hhk.out (below_ext hb t L))
  replace HD := Go.Lib.hid (HD.out.trans (below_did hb t L))
  clear hb
  have q0_0 : w1.cell? ⟨bt, 0, none⟩ = some (.func (.func 158) #[] #[.pointer (some ⟨bk, 0, none⟩), .pointer (some ⟨bw, 0, none⟩), .pointer (some ⟨bh, 0, none⟩), .pointer (some ⟨bv, 0, none⟩)]) := HE.out.cell 0 0 rfl rfl
  have q1_0 : w1.cell? ⟨bk, 0, none⟩ = some (.pointer (some ⟨E.k, 0, none⟩)) := HE.out.cell 1 0 rfl rfl
  have q2_0 : w1.cell? ⟨bw, 0, none⟩ = some (.int .i64 wk) := HE.out.cell 2 0 rfl rfl
  have q3_0 : w1.cell? ⟨bh, 0, none⟩ = some (.int .i64 n) := HE.out.cell 3 0 rfl rfl
  have q3_1 : w1.cell? ⟨bh, 1, none⟩ = some (.int .i64 g) := HE.out.cell 3 1 rfl rfl
  have q4_0 : w1.cell? ⟨bv, 0, none⟩ = some (.func (.func ghk) #[] chk) := HE.out.cell 4 0 rfl rfl
  go_wp2_with fail
  refine (HSO.out _).mono ?_
  rintro e w2 ⟨rfl, hb⟩
  clear q0_0 q1_0 q2_0 q3_0 q3_1 q4_0
  replace HG := Go.Lib.hid (HG.out.below hb)
  replace HE := Go.Lib.hid (HE.out.ext (below_ext hb t L))
  replace Hhk := Go.Lib.hid (ConSim.ext E.cf (prApp E.cf R0) E t Hhk.out (below_ext hb t L))
  replace HD := Go.Lib.hid (HD.out.trans (below_did hb t L))
  clear hb
  have q0_0 : w2.cell? ⟨bt, 0, none⟩ = some (.func (.func 158) #[] #[.pointer (some ⟨bk, 0, none⟩), .pointer (some ⟨bw, 0, none⟩), .pointer (some ⟨bh, 0, none⟩), .pointer (some ⟨bv, 0, none⟩)]) := HE.out.cell 0 0 rfl rfl
  have q1_0 : w2.cell? ⟨bk, 0, none⟩ = some (.pointer (some ⟨E.k, 0, none⟩)) := HE.out.cell 1 0 rfl rfl
  have q2_0 : w2.cell? ⟨bw, 0, none⟩ = some (.int .i64 wk) := HE.out.cell 2 0 rfl rfl
  have q3_0 : w2.cell? ⟨bh, 0, none⟩ = some (.int .i64 n) := HE.out.cell 3 0 rfl rfl
  have q3_1 : w2.cell? ⟨bh, 1, none⟩ = some (.int .i64 g) := HE.out.cell 3 1 rfl rfl
  have q4_0 : w2.cell? ⟨bv, 0, none⟩ = some (.func (.func ghk) #[] chk) := HE.out.cell 4 0 rfl rfl
  have hb : Below w2.heap.size w2 (w2.alloc (.cells #[.int .i64 gn, .int .i64 tm, .int .i64 3] 105)) := (Below.refl _ _).alloc (Nat.le_refl _) _
  have HE0 := Go.Lib.hid (Env.alloc_at HE.out (fun b hb => HG.out.new b hb) [.int .i64 gn, .int .i64 tm, .int .i64 3] 105 (b := w2.heap.size) rfl)
  have n0_0 : (w2.alloc (.cells #[.int .i64 gn, .int .i64 tm, .int .i64 3] 105)).cell? ⟨bt, 0, none⟩ = some (.func (.func 158) #[] #[.pointer (some ⟨bk, 0, none⟩), .pointer (some ⟨bw, 0, none⟩), .pointer (some ⟨bh, 0, none⟩), .pointer (some ⟨bv, 0, none⟩)]) := below_cell hb q0_0
  have n1_0 : (w2.alloc (.cells #[.int .i64 gn, .int .i64 tm, .int .i64 3] 105)).cell? ⟨bk, 0, none⟩ = some (.pointer (some ⟨E.k, 0, none⟩)) := below_cell hb q1_0
  have n2_0 : (w2.alloc (.cells #[.int .i64 gn, .int .i64 tm, .int .i64 3] 105)).cell? ⟨bw, 0, none⟩ = some (.int .i64 wk) := below_cell hb q2_0
  have n3_0 : (w2.alloc (.cells #[.int .i64 gn, .int .i64 tm, .int .i64 3] 105)).cell? ⟨bh, 0, none⟩ = some (.int .i64 n) := below_cell hb q3_0
  have n3_1 : (w2.alloc (.cells #[.int .i64 gn, .int .i64 tm, .int .i64 3] 105)).cell? ⟨bh, 1, none⟩ = some (.int .i64 g) := below_cell hb q3_1
  have n4_0 : (w2.alloc (.cells #[.int .i64 gn, .int .i64 tm, .int .i64 3] 105)).cell? ⟨bv, 0, none⟩ = some (.func (.func ghk) #[] chk) := below_cell hb q4_0
  go_wp2_with fail
  clear n0_0 n1_0 n2_0 n3_0 n3_1 n4_0 q0_0 q1_0 q2_0 q3_0 q3_1 q4_0
  generalize (w2.alloc (.cells #[.int .i64 gn, .int .i64 tm, .int .i64 3] 105)) = w3 at *
  replace HG := Go.Lib.hid (HG.out.below hb)
  replace HE := Go.Lib.hid (HE0.out)
  replace Hhk := Go.Lib.hid (ConSim.ext E.cf (prApp E.cf R0) E t Hhk.out (below_ext hb t L))
  replace HD := Go.Lib.hid (HD.out.trans (below_did hb t L))
  clear hb HE0
  have q0_0 : w3.cell? ⟨w2.heap.size, 0, none⟩ = some (.int .i64 gn) := HE.out.cell 0 0 rfl rfl
  have q0_1 : w3.cell? ⟨w2.heap.size, 1, none⟩ = some (.int .i64 tm) := HE.out.cell 0 1 rfl rfl
  have q0_2 : w3.cell? ⟨w2.heap.size, 2, none⟩ = some (.int .i64 3) := HE.out.cell 0 2 rfl rfl
  have q1_0 : w3.cell? ⟨bt, 0, none⟩ = some (.func (.func 158) #[] #[.pointer (some ⟨bk, 0, none⟩), .pointer (some ⟨bw, 0, none⟩), .pointer (some ⟨bh, 0, none⟩), .pointer (some ⟨bv, 0, none⟩)]) := HE.out.cell 1 0 rfl rfl
  have q2_0 : w3.cell? ⟨bk, 0, none⟩ = some (.pointer (some ⟨E.k, 0, none⟩)) := HE.out.cell 2 0 rfl rfl
  have q3_0 : w3.cell? ⟨bw, 0, none⟩ = some (.int .i64 wk) := HE.out.cell 3 0 rfl rfl
  have q4_0 : w3.cell? ⟨bh, 0, none⟩ = some (.int .i64 n) := HE.out.cell 4 0 rfl rfl
  have q4_1 : w3.cell? ⟨bh, 1, none⟩ = some (.int .i64 g) := HE.out.cell 4 1 rfl rfl
  have q5_0 : w3.cell? ⟨bv, 0, none⟩ = some (.func (.func ghk) #[] chk) := HE.out.cell 5 0 rfl rfl
  refine (HWD.out _).mono ?_
  rintro e w4 ⟨e2, rfl, hb⟩
  clear q0_0 q0_1 q0_2 q1_0 q2_0 q3_0 q4_0 q4_1 q5_0
  replace HG := Go.Lib.hid (HG.out.below hb)
  replace HE := Go.Lib.hid (HE.out.ext (below_ext hb t L))
  replace Hhk := Go.Lib.hid (ConSim.ext E.cf (prApp E.cf R0) E t Hhk.out (below_ext hb t L))
  replace HD := Go.Lib.hid (HD.out.trans (below_did hb t L))
  clear hb
  have q0_0 : w4.cell? ⟨w2.heap.size, 0, none⟩ = some (.int .i64 gn) := HE.out.cell 0 0 rfl rfl
  have q0_1 : w4.cell? ⟨w2.heap.size, 1, none⟩ = some (.int .i64 tm) := HE.out.cell 0 1 rfl rfl
  have q0_2 : w4.cell? ⟨w2.heap.size, 2, none⟩ = some (.int .i64 3) := HE.out.cell 0 2 rfl rfl
  have q1_0 : w4.cell? ⟨bt, 0, none⟩ = some (.func (.func 158) #[] #[.pointer (some ⟨bk, 0, none⟩), .pointer (some ⟨bw, 0, none⟩), .pointer (some ⟨bh, 0, none⟩), .pointer (some ⟨bv, 0, none⟩)]) := HE.out.cell 1 0 rfl rfl
  have q2_0 : w4.cell? ⟨bk, 0, none⟩ = some (.pointer (some ⟨E.k, 0, none⟩)) := HE.out.cell 2 0 rfl rfl
  have q3_0 : w4.cell? ⟨bw, 0, none⟩ = some (.int .i64 wk) := HE.out.cell 3 0 rfl rfl
  have q4_0 : w4.cell? ⟨bh, 0, none⟩ = some (.int .i64 n) := HE.out.cell 4 0 rfl rfl
  have q4_1 : w4.cell? ⟨bh, 1, none⟩ = some (.int .i64 g) := HE.out.cell 4 1 rfl rfl
  have q5_0 : w4.cell? ⟨bv, 0, none⟩ = some (.func (.func ghk) #[] chk) := HE.out.cell 5 0 rfl rfl
  have HCE := Go.Lib.hid (arm_cells HG.out)
  have HAT := Go.Lib.hid (arm_at HG.out n g)
  go_wp2
  have q0_0' : ∀ d os, (Sort.grow (redrawn w4 d) os).cell? ⟨w2.heap.size, 0, none⟩ = some (.int .i64 gn) := fun d os => cell_regrown q0_0 d os
  have q0_1' : ∀ d os, (Sort.grow (redrawn w4 d) os).cell? ⟨w2.heap.size, 1, none⟩ = some (.int .i64 tm) := fun d os => cell_regrown q0_1 d os
  have q0_2' : ∀ d os, (Sort.grow (redrawn w4 d) os).cell? ⟨w2.heap.size, 2, none⟩ = some (.int .i64 3) := fun d os => cell_regrown q0_2 d os
  have q1_0' : ∀ d os, (Sort.grow (redrawn w4 d) os).cell? ⟨bt, 0, none⟩ = some (.func (.func 158) #[] #[.pointer (some ⟨bk, 0, none⟩), .pointer (some ⟨bw, 0, none⟩), .pointer (some ⟨bh, 0, none⟩), .pointer (some ⟨bv, 0, none⟩)]) := fun d os => cell_regrown q1_0 d os
  have q2_0' : ∀ d os, (Sort.grow (redrawn w4 d) os).cell? ⟨bk, 0, none⟩ = some (.pointer (some ⟨E.k, 0, none⟩)) := fun d os => cell_regrown q2_0 d os
  have q3_0' : ∀ d os, (Sort.grow (redrawn w4 d) os).cell? ⟨bw, 0, none⟩ = some (.int .i64 wk) := fun d os => cell_regrown q3_0 d os
  have q4_0' : ∀ d os, (Sort.grow (redrawn w4 d) os).cell? ⟨bh, 0, none⟩ = some (.int .i64 n) := fun d os => cell_regrown q4_0 d os
  have q4_1' : ∀ d os, (Sort.grow (redrawn w4 d) os).cell? ⟨bh, 1, none⟩ = some (.int .i64 g) := fun d os => cell_regrown q4_1 d os
  have q5_0' : ∀ d os, (Sort.grow (redrawn w4 d) os).cell? ⟨bv, 0, none⟩ = some (.func (.func ghk) #[] chk) := fun d os => cell_regrown q5_0 d os
  refine wp_region_below_tail 8 (by kernel_rfl) (by kernel_rfl) ?_
  simp only [List.take_succ_cons, List.take_zero, List.drop_succ_cons, List.drop_zero]
  repeat (go_big_quiet_step (first
    | (go_at_call 44; rename_i p; exact Calls.regrown_of (HCE.out _ (below_regrown w4 p.d p.os)))
    | (go_at_call 161; rename_i p; exact Calls.regrown_of (HAT.out _ (below_regrown w4 p.d p.os)))))
  refine wpQuiet_nil ?_
  intro w5 hw'
  obtain ⟨p, rfl⟩ := hw'
  have hb := below_regrown w4 p.d p.os
  clear q0_0' q0_1' q0_2' q1_0' q2_0' q3_0' q4_0' q4_1' q5_0' q0_0 q0_1 q0_2 q1_0 q2_0 q3_0 q4_0 q4_1 q5_0
  generalize Sort.grow (redrawn w4 p.d) p.os = w5 at *
  replace HG := Go.Lib.hid (HG.out.below hb)
  replace HE := Go.Lib.hid (HE.out.ext (below_ext hb t L))
  replace Hhk := Go.Lib.hid (ConSim.ext E.cf (prApp E.cf R0) E t Hhk.out (below_ext hb t L))
  replace HD := Go.Lib.hid (HD.out.trans (below_did hb t L))
  clear hb
  have q0_0 : w5.cell? ⟨w2.heap.size, 0, none⟩ = some (.int .i64 gn) := HE.out.cell 0 0 rfl rfl
  have q0_1 : w5.cell? ⟨w2.heap.size, 1, none⟩ = some (.int .i64 tm) := HE.out.cell 0 1 rfl rfl
  have q0_2 : w5.cell? ⟨w2.heap.size, 2, none⟩ = some (.int .i64 3) := HE.out.cell 0 2 rfl rfl
  have q1_0 : w5.cell? ⟨bt, 0, none⟩ = some (.func (.func 158) #[] #[.pointer (some ⟨bk, 0, none⟩), .pointer (some ⟨bw, 0, none⟩), .pointer (some ⟨bh, 0, none⟩), .pointer (some ⟨bv, 0, none⟩)]) := HE.out.cell 1 0 rfl rfl
  have q2_0 : w5.cell? ⟨bk, 0, none⟩ = some (.pointer (some ⟨E.k, 0, none⟩)) := HE.out.cell 2 0 rfl rfl
  have q3_0 : w5.cell? ⟨bw, 0, none⟩ = some (.int .i64 wk) := HE.out.cell 3 0 rfl rfl
  have q4_0 : w5.cell? ⟨bh, 0, none⟩ = some (.int .i64 n) := HE.out.cell 4 0 rfl rfl
  have q4_1 : w5.cell? ⟨bh, 1, none⟩ = some (.int .i64 g) := HE.out.cell 4 1 rfl rfl
  have q5_0 : w5.cell? ⟨bv, 0, none⟩ = some (.func (.func ghk) #[] chk) := HE.out.cell 5 0 rfl rfl
  have HT := Go.Lib.hid (cas_at hR (i := E.cf.state n) (old := x) HSL.out HG.out (cn2_con (k := k) hR (HE.out.sub (env' := [(bk, [.pointer (some ⟨E.k, 0, none⟩)]), (bw, [.int .i64 wk]), (bh, [.int .i64 n, .int .i64 g]), (bv, [.func (.func ghk) #[] chk])]) (by simp)) Hhk.out hw))
  go_wp2_with fail
  refine (HT.out).mono ?_
  rintro e w9 ⟨v2, L9, rfl, hd2, hg2, hc2⟩
  go_wp2
  go_ret
  exact ⟨v2, L9, rfl, HD.out.trans hd2, hg2, hc2⟩
theorem cn1_con (hR : RMono (prApp E.cf R0)) {m : Nat} {wk n g : Int} {vk : Value} {k : PR ρ} {L : Lab} {w : World} {bt bk bw bh bv : Nat} (henv : Env L w [(bt, [.func (.func 158) #[] #[.pointer (some ⟨bk, 0, none⟩), .pointer (some ⟨bw, 0, none⟩), .pointer (some ⟨bh, 0, none⟩), .pointer (some ⟨bv, 0, none⟩)]]), (bk, [.pointer (some ⟨E.k, 0, none⟩)]), (bw, [.int .i64 wk]), (bh, [.int .i64 n, .int .i64 g]), (bv, [vk])]) (hk : ConSim E.cf (prApp E.cf R0) E t isB m L w vk (.ret k)) (hw : 0 ≤ wk) :
    ConSim E.cf (prApp E.cf R0) E t isW m L w (.func (.func 163) #[] #[.pointer (some ⟨bh, 0, none⟩), .pointer (some ⟨bt, 0, none⟩), .pointer (some ⟨bk, 0, none⟩)]) (.ret (.cn1 wk n g k)) := by
  refine ⟨_, _, rfl, enters_of Tryz.func163 (by kernel_rfl) rfl, ?_⟩
  intro a L' w' S ha hx hg hbd
  cases a with
  | w x =>
    show Calls _ _ #[_, _, _, _] _ _
    rw [app_ret, prApp] at hbd ⊢
    cases h : armedW x g with
    | true => rw [if_pos rfl]; exact cn1_yes hR hg (henv.ext hx) (ConSim.ext E.cf (prApp E.cf R0) E t hk hx) hw ha h
    | false => rw [h, if_neg (by decide)] at hbd; rw [if_neg (by decide)]; exact cn1_no hR hg (henv.ext hx) (ConSim.ext E.cf (prApp E.cf R0) E t hk hx) hw ha h hbd
  | _ => exact absurd ha (by simp [isW])
set_option maxHeartbeats 4000000 in
theorem cancel_i (hR : RMono (prApp E.cf R0)) {m : Nat} {wk n g : Int} {vk : Value} {k : PR ρ} {L : Lab} {w : World} {S : St} (hg : Good E L S w) (hk : ConSim E.cf (prApp E.cf R0) E t isB m L w vk (.ret k)) (hw : 0 ≤ wk) (h1 : E.cf.state n < 0) :
    Calls Tryz.prog 65 #[.pointer (some ⟨E.k, 0, none⟩), .int .i64 wk, .agg #[.int .i64 n, .int .i64 g], vk] w (Post E.cf (prApp E.cf R0) E t m L w (S, some (.idle (.ret (.cn0 wk n g k))))) := by
  have henv := Env.nil L w
  have hd1 : decide (E.cf.state n < 0) = true := decide_eq_true h1
  have HD := Go.Lib.hid (Did.refl t L w)
  have HG := Go.Lib.hid hg
  have HE := Go.Lib.hid henv
  obtain ⟨ghk, chk, hvhk, hgfhk, _⟩ := id hk
  subst hvhk
  have henhk : ∀ (args : Array Value) (w : World), (callFunc ghk args).run Tryz.prog w = .ok (.enter ghk args) w := hgfhk
  have Hhk := Go.Lib.hid hk
  clear hg henv hk hgfhk
  have hb0 : Below w.heap.size w (((((w.alloc (.cells #[.pointer (some ⟨E.k, 0, none⟩)] 28)).alloc (.cells #[.int .i64 wk] 3)).alloc (.cells #[.int .i64 n, .int .i64 g] 46)).alloc (.cells #[.func (.func ghk) #[] chk] 114)).alloc (.cells #[.func (.func 158) #[] #[.pointer (some ⟨w.heap.size, 0, none⟩), .pointer (some ⟨w.heap.size + 1, 0, none⟩), .pointer (some ⟨w.heap.size + 1 + 1, 0, none⟩), .pointer (some ⟨w.heap.size + 1 + 1 + 1, 0, none⟩)]] 114)) := ((((((Below.refl _ _).alloc (Nat.le_refl _) _).alloc (by first | (simp; done) | (simp; omega)) _).alloc (by first | (simp; done) | (simp; omega)) _).alloc (by first | (simp; done) | (simp; omega)) _).alloc (by first | (simp; done) | (simp; omega)) _)
  have HE0 : Hid (Env L (((((w.alloc (.cells #[.pointer (some ⟨E.k, 0, none⟩)] 28)).alloc (.cells #[.int .i64 wk] 3)).alloc (.cells #[.int .i64 n, .int .i64 g] 46)).alloc (.cells #[.func (.func ghk) #[] chk] 114)).alloc (.cells #[.func (.func 158) #[] #[.pointer (some ⟨w.heap.size, 0, none⟩), .pointer (some ⟨w.heap.size + 1, 0, none⟩), .pointer (some ⟨w.heap.size + 1 + 1, 0, none⟩), .pointer (some ⟨w.heap.size + 1 + 1 + 1, 0, none⟩)]] 114)) [(w.heap.size + 1 + 1 + 1 + 1, [.func (.func 158) #[] #[.pointer (some ⟨w.heap.size, 0, none⟩), .pointer (some ⟨w.heap.size + 1, 0, none⟩), .pointer (some ⟨w.heap.size + 1 + 1, 0, none⟩), .pointer (some ⟨w.heap.size + 1 + 1 + 1, 0, none⟩)]]), (w.heap.size + 1 + 1 + 1, [.func (.func ghk) #[] chk]), (w.heap.size + 1 + 1, [.int .i64 n, .int .i64 g]), (w.heap.size + 1, [.int .i64 wk]), (w.heap.size, [.pointer (some ⟨E.k, 0, none⟩)])]) := Go.Lib.hid (Env.alloc_at (Env.alloc_at (Env.alloc_at (Env.alloc_at (Env.alloc_at HE.out (fun b hb => HG.out.new b (by first | exact hb | (simp at hb; omega))) [.pointer (some ⟨E.k, 0, none⟩)] 28 (b := w.heap.size) (by first | rfl | (simp; done) | (simp; omega))) (fun b hb => HG.out.new b (by first | exact hb | (simp at hb; omega))) [.int .i64 wk] 3 (b := w.heap.size + 1) (by first | rfl | (simp; done) | (simp; omega))) (fun b hb => HG.out.new b (by first | exact hb | (simp at hb; omega))) [.int .i64 n, .int .i64 g] 46 (b := w.heap.size + 1 + 1) (by first | rfl | (simp; done) | (simp; omega))) (fun b hb => HG.out.new b (by first | exact hb | (simp at hb; omega))) [.func (.func ghk) #[] chk] 114 (b := w.heap.size + 1 + 1 + 1) (by first | rfl | (simp; done) | (simp; omega))) (fun b hb => HG.out.new b (by first | exact hb | (simp at hb; omega))) [.func (.func 158) #[] #[.pointer (some ⟨w.heap.size, 0, none⟩), .pointer (some ⟨w.heap.size + 1, 0, none⟩), .pointer (some ⟨w.heap.size + 1 + 1, 0, none⟩), .pointer (some ⟨w.heap.size + 1 + 1 + 1, 0, none⟩)]] 114 (b := w.heap.size + 1 + 1 + 1 + 1) (by first | rfl | (simp; done) | (simp; omega)))
  replace HG := Go.Lib.hid (HG.out.below hb0)
  replace HE := Go.Lib.hid (HE0.out)
  replace Hhk := Go.Lib.hid (ConSim.ext E.cf (prApp E.cf R0) E t Hhk.out (below_ext hb0 t L))
  replace HD := Go.Lib.hid (HD.out.trans (below_did hb0 t L))
  clear hb0 HE0
  have q0_0 : (((((w.alloc (.cells #[.pointer (some ⟨E.k, 0, none⟩)] 28)).alloc (.cells #[.int .i64 wk] 3)).alloc (.cells #[.int .i64 n, .int .i64 g] 46)).alloc (.cells #[.func (.func ghk) #[] chk] 114)).alloc (.cells #[.func (.func 158) #[] #[.pointer (some ⟨w.heap.size, 0, none⟩), .pointer (some ⟨w.heap.size + 1, 0, none⟩), .pointer (some ⟨w.heap.size + 1 + 1, 0, none⟩), .pointer (some ⟨w.heap.size + 1 + 1 + 1, 0, none⟩)]] 114)).cell? ⟨w.heap.size + 1 + 1 + 1 + 1, 0, none⟩ = some (.func (.func 158) #[] #[.pointer (some ⟨w.heap.size, 0, none⟩), .pointer (some ⟨w.heap.size + 1, 0, none⟩), .pointer (some ⟨w.heap.size + 1 + 1, 0, none⟩), .pointer (some ⟨w.heap.size + 1 + 1 + 1, 0, none⟩)]) := HE.out.cell 0 0 rfl rfl
  have q1_0 : (((((w.alloc (.cells #[.pointer (some ⟨E.k, 0, none⟩)] 28)).alloc (.cells #[.int .i64 wk] 3)).alloc (.cells #[.int .i64 n, .int .i64 g] 46)).alloc (.cells #[.func (.func ghk) #[] chk] 114)).alloc (.cells #[.func (.func 158) #[] #[.pointer (some ⟨w.heap.size, 0, none⟩), .pointer (some ⟨w.heap.size + 1, 0, none⟩), .pointer (some ⟨w.heap.size + 1 + 1, 0, none⟩), .pointer (some ⟨w.heap.size + 1 + 1 + 1, 0, none⟩)]] 114)).cell? ⟨w.heap.size + 1 + 1 + 1, 0, none⟩ = some (.func (.func ghk) #[] chk) := HE.out.cell 1 0 rfl rfl
  have q2_0 : (((((w.alloc (.cells #[.pointer (some ⟨E.k, 0, none⟩)] 28)).alloc (.cells #[.int .i64 wk] 3)).alloc (.cells #[.int .i64 n, .int .i64 g] 46)).alloc (.cells #[.func (.func ghk) #[] chk] 114)).alloc (.cells #[.func (.func 158) #[] #[.pointer (some ⟨w.heap.size, 0, none⟩), .pointer (some ⟨w.heap.size + 1, 0, none⟩), .pointer (some ⟨w.heap.size + 1 + 1, 0, none⟩), .pointer (some ⟨w.heap.size + 1 + 1 + 1, 0, none⟩)]] 114)).cell? ⟨w.heap.size + 1 + 1, 0, none⟩ = some (.int .i64 n) := HE.out.cell 2 0 rfl rfl
  have q2_1 : (((((w.alloc (.cells #[.pointer (some ⟨E.k, 0, none⟩)] 28)).alloc (.cells #[.int .i64 wk] 3)).alloc (.cells #[.int .i64 n, .int .i64 g] 46)).alloc (.cells #[.func (.func ghk) #[] chk] 114)).alloc (.cells #[.func (.func 158) #[] #[.pointer (some ⟨w.heap.size, 0, none⟩), .pointer (some ⟨w.heap.size + 1, 0, none⟩), .pointer (some ⟨w.heap.size + 1 + 1, 0, none⟩), .pointer (some ⟨w.heap.size + 1 + 1 + 1, 0, none⟩)]] 114)).cell? ⟨w.heap.size + 1 + 1, 1, none⟩ = some (.int .i64 g) := HE.out.cell 2 1 rfl rfl
  have q3_0 : (((((w.alloc (.cells #[.pointer (some ⟨E.k, 0, none⟩)] 28)).alloc (.cells #[.int .i64 wk] 3)).alloc (.cells #[.int .i64 n, .int .i64 g] 46)).alloc (.cells #[.func (.func ghk) #[] chk] 114)).alloc (.cells #[.func (.func 158) #[] #[.pointer (some ⟨w.heap.size, 0, none⟩), .pointer (some ⟨w.heap.size + 1, 0, none⟩), .pointer (some ⟨w.heap.size + 1 + 1, 0, none⟩), .pointer (some ⟨w.heap.size + 1 + 1 + 1, 0, none⟩)]] 114)).cell? ⟨w.heap.size + 1, 0, none⟩ = some (.int .i64 wk) := HE.out.cell 3 0 rfl rfl
  have q4_0 : (((((w.alloc (.cells #[.pointer (some ⟨E.k, 0, none⟩)] 28)).alloc (.cells #[.int .i64 wk] 3)).alloc (.cells #[.int .i64 n, .int .i64 g] 46)).alloc (.cells #[.func (.func ghk) #[] chk] 114)).alloc (.cells #[.func (.func 158) #[] #[.pointer (some ⟨w.heap.size, 0, none⟩), .pointer (some ⟨w.heap.size + 1, 0, none⟩), .pointer (some ⟨w.heap.size + 1 + 1, 0, none⟩), .pointer (some ⟨w.heap.size + 1 + 1 + 1, 0, none⟩)]] 114)).cell? ⟨w.heap.size, 0, none⟩ = some (.pointer (some ⟨E.k, 0, none⟩)) := HE.out.cell 4 0 rfl rfl
  go_enter Tryz.func65, Tryz.ntmps65
  go_wp2_with fail
  generalize (((((w.alloc (.cells #[.pointer (some ⟨E.k, 0, none⟩)] 28)).alloc (.cells #[.int .i64 wk] 3)).alloc (.cells #[.int .i64 n, .int .i64 g] 46)).alloc (.cells #[.func (.func ghk) #[] chk] 114)).alloc (.cells #[.func (.func 158) #[] #[.pointer (some ⟨w.heap.size, 0, none⟩), .pointer (some ⟨w.heap.size + 1, 0, none⟩), .pointer (some ⟨w.heap.size + 1 + 1, 0, none⟩), .pointer (some ⟨w.heap.size + 1 + 1 + 1, 0, none⟩)]] 114)) = w0 at *
  refine (chg_at HG.out n g).mono ?_
  rintro e w1 ⟨rfl, hb⟩
  clear q0_0 q1_0 q2_0 q2_1 q3_0 q4_0
  replace HG := Go.Lib.hid (HG.out.below hb)
  replace HE := Go.Lib.hid (HE.out.ext (below_ext hb t L))
  replace Hhk := Go.Lib.hid (ConSim.ext E.cf (prApp E.cf R0) E t Hhk.out (below_ext hb t L))
  replace HD := Go.Lib.hid (HD.out.trans (below_did hb t L))
  clear hb
  have q0_0 : w1.cell? ⟨w.heap.size + 1 + 1 + 1 + 1, 0, none⟩ = some (.func (.func 158) #[] #[.pointer (some ⟨w.heap.size, 0, none⟩), .pointer (some ⟨w.heap.size + 1, 0, none⟩), .pointer (some ⟨w.heap.size + 1 + 1, 0, none⟩), .pointer (some ⟨w.heap.size + 1 + 1 + 1, 0, none⟩)]) := HE.out.cell 0 0 rfl rfl
  have q1_0 : w1.cell? ⟨w.heap.size + 1 + 1 + 1, 0, none⟩ = some (.func (.func ghk) #[] chk) := HE.out.cell 1 0 rfl rfl
  have q2_0 : w1.cell? ⟨w.heap.size + 1 + 1, 0, none⟩ = some (.int .i64 n) := HE.out.cell 2 0 rfl rfl
  have q2_1 : w1.cell? ⟨w.heap.size + 1 + 1, 1, none⟩ = some (.int .i64 g) := HE.out.cell 2 1 rfl rfl
  have q3_0 : w1.cell? ⟨w.heap.size + 1, 0, none⟩ = some (.int .i64 wk) := HE.out.cell 3 0 rfl rfl
  have q4_0 : w1.cell? ⟨w.heap.size, 0, none⟩ = some (.pointer (some ⟨E.k, 0, none⟩)) := HE.out.cell 4 0 rfl rfl
  go_wp2_with fail
  refine (idle_at HG.out (cn0_con (k := k) hR (HE.out.sub (env' := [(w.heap.size + 1 + 1 + 1 + 1, [.func (.func 158) #[] #[.pointer (some ⟨w.heap.size, 0, none⟩), .pointer (some ⟨w.heap.size + 1, 0, none⟩), .pointer (some ⟨w.heap.size + 1 + 1, 0, none⟩), .pointer (some ⟨w.heap.size + 1 + 1 + 1, 0, none⟩)]]), (w.heap.size, [.pointer (some ⟨E.k, 0, none⟩)]), (w.heap.size + 1, [.int .i64 wk]), (w.heap.size + 1 + 1, [.int .i64 n, .int .i64 g]), (w.heap.size + 1 + 1 + 1, [.func (.func ghk) #[] chk])]) (by simp)) Hhk.out hw)).mono ?_
  rintro e w9 ⟨v2, L9, rfl, hd2, hg2, hc2⟩
  go_wp2
  go_ret
  exact ⟨v2, L9, rfl, HD.out.trans hd2, hg2, hc2⟩
set_option maxHeartbeats 4000000 in
theorem cancel_l (hR : RMono (prApp E.cf R0)) {m : Nat} {wk n g : Int} {vk : Value} {k : PR ρ} {L : Lab} {w : World} {S : St} (hg : Good E L S w) (hk : ConSim E.cf (prApp E.cf R0) E t isB m L w vk (.ret k)) (hw : 0 ≤ wk) (h1 : ¬ E.cf.state n < 0) :
    Calls Tryz.prog 65 #[.pointer (some ⟨E.k, 0, none⟩), .int .i64 wk, .agg #[.int .i64 n, .int .i64 g], vk] w (Post E.cf (prApp E.cf R0) E t m L w (S, some (.load (E.cf.state n) (.ret (.cn1 wk n g k))))) := by
  have henv := Env.nil L w
  have hd1 : decide (E.cf.state n < 0) = false := decide_eq_false h1
  have HD := Go.Lib.hid (Did.refl t L w)
  have HG := Go.Lib.hid hg
  have HE := Go.Lib.hid henv
  obtain ⟨ghk, chk, hvhk, hgfhk, _⟩ := id hk
  subst hvhk
  have henhk : ∀ (args : Array Value) (w : World), (callFunc ghk args).run Tryz.prog w = .ok (.enter ghk args) w := hgfhk
  have Hhk := Go.Lib.hid hk
  clear hg henv hk hgfhk
  have hb0 : Below w.heap.size w (((((w.alloc (.cells #[.pointer (some ⟨E.k, 0, none⟩)] 28)).alloc (.cells #[.int .i64 wk] 3)).alloc (.cells #[.int .i64 n, .int .i64 g] 46)).alloc (.cells #[.func (.func ghk) #[] chk] 114)).alloc (.cells #[.func (.func 158) #[] #[.pointer (some ⟨w.heap.size, 0, none⟩), .pointer (some ⟨w.heap.size + 1, 0, none⟩), .pointer (some ⟨w.heap.size + 1 + 1, 0, none⟩), .pointer (some ⟨w.heap.size + 1 + 1 + 1, 0, none⟩)]] 114)) := ((((((Below.refl _ _).alloc (Nat.le_refl _) _).alloc (by first | (simp; done) | (simp; omega)) _).alloc (by first | (simp; done) | (simp; omega)) _).alloc (by first | (simp; done) | (simp; omega)) _).alloc (by first | (simp; done) | (simp; omega)) _)
  have HE0 : Hid (Env L (((((w.alloc (.cells #[.pointer (some ⟨E.k, 0, none⟩)] 28)).alloc (.cells #[.int .i64 wk] 3)).alloc (.cells #[.int .i64 n, .int .i64 g] 46)).alloc (.cells #[.func (.func ghk) #[] chk] 114)).alloc (.cells #[.func (.func 158) #[] #[.pointer (some ⟨w.heap.size, 0, none⟩), .pointer (some ⟨w.heap.size + 1, 0, none⟩), .pointer (some ⟨w.heap.size + 1 + 1, 0, none⟩), .pointer (some ⟨w.heap.size + 1 + 1 + 1, 0, none⟩)]] 114)) [(w.heap.size + 1 + 1 + 1 + 1, [.func (.func 158) #[] #[.pointer (some ⟨w.heap.size, 0, none⟩), .pointer (some ⟨w.heap.size + 1, 0, none⟩), .pointer (some ⟨w.heap.size + 1 + 1, 0, none⟩), .pointer (some ⟨w.heap.size + 1 + 1 + 1, 0, none⟩)]]), (w.heap.size + 1 + 1 + 1, [.func (.func ghk) #[] chk]), (w.heap.size + 1 + 1, [.int .i64 n, .int .i64 g]), (w.heap.size + 1, [.int .i64 wk]), (w.heap.size, [.pointer (some ⟨E.k, 0, none⟩)])]) := Go.Lib.hid (Env.alloc_at (Env.alloc_at (Env.alloc_at (Env.alloc_at (Env.alloc_at HE.out (fun b hb => HG.out.new b (by first | exact hb | (simp at hb; omega))) [.pointer (some ⟨E.k, 0, none⟩)] 28 (b := w.heap.size) (by first | rfl | (simp; done) | (simp; omega))) (fun b hb => HG.out.new b (by first | exact hb | (simp at hb; omega))) [.int .i64 wk] 3 (b := w.heap.size + 1) (by first | rfl | (simp; done) | (simp; omega))) (fun b hb => HG.out.new b (by first | exact hb | (simp at hb; omega))) [.int .i64 n, .int .i64 g] 46 (b := w.heap.size + 1 + 1) (by first | rfl | (simp; done) | (simp; omega))) (fun b hb => HG.out.new b (by first | exact hb | (simp at hb; omega))) [.func (.func ghk) #[] chk] 114 (b := w.heap.size + 1 + 1 + 1) (by first | rfl | (simp; done) | (simp; omega))) (fun b hb => HG.out.new b (by first | exact hb | (simp at hb; omega))) [.func (.func 158) #[] #[.pointer (some ⟨w.heap.size, 0, none⟩), .pointer (some ⟨w.heap.size + 1, 0, none⟩), .pointer (some ⟨w.heap.size + 1 + 1, 0, none⟩), .pointer (some ⟨w.heap.size + 1 + 1 + 1, 0, none⟩)]] 114 (b := w.heap.size + 1 + 1 + 1 + 1) (by first | rfl | (simp; done) | (simp; omega)))
  replace HG := Go.Lib.hid (HG.out.below hb0)
  replace HE := Go.Lib.hid (HE0.out)
  replace Hhk := Go.Lib.hid (ConSim.ext E.cf (prApp E.cf R0) E t Hhk.out (below_ext hb0 t L))
  replace HD := Go.Lib.hid (HD.out.trans (below_did hb0 t L))
  clear hb0 HE0
  have q0_0 : (((((w.alloc (.cells #[.pointer (some ⟨E.k, 0, none⟩)] 28)).alloc (.cells #[.int .i64 wk] 3)).alloc (.cells #[.int .i64 n, .int .i64 g] 46)).alloc (.cells #[.func (.func ghk) #[] chk] 114)).alloc (.cells #[.func (.func 158) #[] #[.pointer (some ⟨w.heap.size, 0, none⟩), .pointer (some ⟨w.heap.size + 1, 0, none⟩), .pointer (some ⟨w.heap.size + 1 + 1, 0, none⟩), .pointer (some ⟨w.heap.size + 1 + 1 + 1, 0, none⟩)]] 114)).cell? ⟨w.heap.size + 1 + 1 + 1 + 1, 0, none⟩ = some (.func (.func 158) #[] #[.pointer (some ⟨w.heap.size, 0, none⟩), .pointer (some ⟨w.heap.size + 1, 0, none⟩), .pointer (some ⟨w.heap.size + 1 + 1, 0, none⟩), .pointer (some ⟨w.heap.size + 1 + 1 + 1, 0, none⟩)]) := HE.out.cell 0 0 rfl rfl
  have q1_0 : (((((w.alloc (.cells #[.pointer (some ⟨E.k, 0, none⟩)] 28)).alloc (.cells #[.int .i64 wk] 3)).alloc (.cells #[.int .i64 n, .int .i64 g] 46)).alloc (.cells #[.func (.func ghk) #[] chk] 114)).alloc (.cells #[.func (.func 158) #[] #[.pointer (some ⟨w.heap.size, 0, none⟩), .pointer (some ⟨w.heap.size + 1, 0, none⟩), .pointer (some ⟨w.heap.size + 1 + 1, 0, none⟩), .pointer (some ⟨w.heap.size + 1 + 1 + 1, 0, none⟩)]] 114)).cell? ⟨w.heap.size + 1 + 1 + 1, 0, none⟩ = some (.func (.func ghk) #[] chk) := HE.out.cell 1 0 rfl rfl
  have q2_0 : (((((w.alloc (.cells #[.pointer (some ⟨E.k, 0, none⟩)] 28)).alloc (.cells #[.int .i64 wk] 3)).alloc (.cells #[.int .i64 n, .int .i64 g] 46)).alloc (.cells #[.func (.func ghk) #[] chk] 114)).alloc (.cells #[.func (.func 158) #[] #[.pointer (some ⟨w.heap.size, 0, none⟩), .pointer (some ⟨w.heap.size + 1, 0, none⟩), .pointer (some ⟨w.heap.size + 1 + 1, 0, none⟩), .pointer (some ⟨w.heap.size + 1 + 1 + 1, 0, none⟩)]] 114)).cell? ⟨w.heap.size + 1 + 1, 0, none⟩ = some (.int .i64 n) := HE.out.cell 2 0 rfl rfl
  have q2_1 : (((((w.alloc (.cells #[.pointer (some ⟨E.k, 0, none⟩)] 28)).alloc (.cells #[.int .i64 wk] 3)).alloc (.cells #[.int .i64 n, .int .i64 g] 46)).alloc (.cells #[.func (.func ghk) #[] chk] 114)).alloc (.cells #[.func (.func 158) #[] #[.pointer (some ⟨w.heap.size, 0, none⟩), .pointer (some ⟨w.heap.size + 1, 0, none⟩), .pointer (some ⟨w.heap.size + 1 + 1, 0, none⟩), .pointer (some ⟨w.heap.size + 1 + 1 + 1, 0, none⟩)]] 114)).cell? ⟨w.heap.size + 1 + 1, 1, none⟩ = some (.int .i64 g) := HE.out.cell 2 1 rfl rfl
  have q3_0 : (((((w.alloc (.cells #[.pointer (some ⟨E.k, 0, none⟩)] 28)).alloc (.cells #[.int .i64 wk] 3)).alloc (.cells #[.int .i64 n, .int .i64 g] 46)).alloc (.cells #[.func (.func ghk) #[] chk] 114)).alloc (.cells #[.func (.func 158) #[] #[.pointer (some ⟨w.heap.size, 0, none⟩), .pointer (some ⟨w.heap.size + 1, 0, none⟩), .pointer (some ⟨w.heap.size + 1 + 1, 0, none⟩), .pointer (some ⟨w.heap.size + 1 + 1 + 1, 0, none⟩)]] 114)).cell? ⟨w.heap.size + 1, 0, none⟩ = some (.int .i64 wk) := HE.out.cell 3 0 rfl rfl
  have q4_0 : (((((w.alloc (.cells #[.pointer (some ⟨E.k, 0, none⟩)] 28)).alloc (.cells #[.int .i64 wk] 3)).alloc (.cells #[.int .i64 n, .int .i64 g] 46)).alloc (.cells #[.func (.func ghk) #[] chk] 114)).alloc (.cells #[.func (.func 158) #[] #[.pointer (some ⟨w.heap.size, 0, none⟩), .pointer (some ⟨w.heap.size + 1, 0, none⟩), .pointer (some ⟨w.heap.size + 1 + 1, 0, none⟩), .pointer (some ⟨w.heap.size + 1 + 1 + 1, 0, none⟩)]] 114)).cell? ⟨w.heap.size, 0, none⟩ = some (.pointer (some ⟨E.k, 0, none⟩)) := HE.out.cell 4 0 rfl rfl
  go_enter Tryz.func65, Tryz.ntmps65
  go_wp2_with fail
  generalize (((((w.alloc (.cells #[.pointer (some ⟨E.k, 0, none⟩)] 28)).alloc (.cells #[.int .i64 wk] 3)).alloc (.cells #[.int .i64 n, .int .i64 g] 46)).alloc (.cells #[.func (.func ghk) #[] chk] 114)).alloc (.cells #[.func (.func 158) #[] #[.pointer (some ⟨w.heap.size, 0, none⟩), .pointer (some ⟨w.heap.size + 1, 0, none⟩), .pointer (some ⟨w.heap.size + 1 + 1, 0, none⟩), .pointer (some ⟨w.heap.size + 1 + 1 + 1, 0, none⟩)]] 114)) = w0 at *
  refine (chg_at HG.out n g).mono ?_
  rintro e w1 ⟨rfl, hb⟩
  clear q0_0 q1_0 q2_0 q2_1 q3_0 q4_0
  replace HG := Go.Lib.hid (HG.out.below hb)
  replace HE := Go.Lib.hid (HE.out.ext (below_ext hb t L))
  replace Hhk := Go.Lib.hid (ConSim.ext E.cf (prApp E.cf R0) E t Hhk.out (below_ext hb t L))
  replace HD := Go.Lib.hid (HD.out.trans (below_did hb t L))
  clear hb
  have q0_0 : w1.cell? ⟨w.heap.size + 1 + 1 + 1 + 1, 0, none⟩ = some (.func (.func 158) #[] #[.pointer (some ⟨w.heap.size, 0, none⟩), .pointer (some ⟨w.heap.size + 1, 0, none⟩), .pointer (some ⟨w.heap.size + 1 + 1, 0, none⟩), .pointer (some ⟨w.heap.size + 1 + 1 + 1, 0, none⟩)]) := HE.out.cell 0 0 rfl rfl
  have q1_0 : w1.cell? ⟨w.heap.size + 1 + 1 + 1, 0, none⟩ = some (.func (.func ghk) #[] chk) := HE.out.cell 1 0 rfl rfl
  have q2_0 : w1.cell? ⟨w.heap.size + 1 + 1, 0, none⟩ = some (.int .i64 n) := HE.out.cell 2 0 rfl rfl
  have q2_1 : w1.cell? ⟨w.heap.size + 1 + 1, 1, none⟩ = some (.int .i64 g) := HE.out.cell 2 1 rfl rfl
  have q3_0 : w1.cell? ⟨w.heap.size + 1, 0, none⟩ = some (.int .i64 wk) := HE.out.cell 3 0 rfl rfl
  have q4_0 : w1.cell? ⟨w.heap.size, 0, none⟩ = some (.pointer (some ⟨E.k, 0, none⟩)) := HE.out.cell 4 0 rfl rfl
  have HCE := Go.Lib.hid (arm_cells HG.out)
  have HAT := Go.Lib.hid (arm_at HG.out n g)
  go_wp2
  have q0_0' : ∀ d os, (Sort.grow (redrawn w1 d) os).cell? ⟨w.heap.size + 1 + 1 + 1 + 1, 0, none⟩ = some (.func (.func 158) #[] #[.pointer (some ⟨w.heap.size, 0, none⟩), .pointer (some ⟨w.heap.size + 1, 0, none⟩), .pointer (some ⟨w.heap.size + 1 + 1, 0, none⟩), .pointer (some ⟨w.heap.size + 1 + 1 + 1, 0, none⟩)]) := fun d os => cell_regrown q0_0 d os
  have q1_0' : ∀ d os, (Sort.grow (redrawn w1 d) os).cell? ⟨w.heap.size + 1 + 1 + 1, 0, none⟩ = some (.func (.func ghk) #[] chk) := fun d os => cell_regrown q1_0 d os
  have q2_0' : ∀ d os, (Sort.grow (redrawn w1 d) os).cell? ⟨w.heap.size + 1 + 1, 0, none⟩ = some (.int .i64 n) := fun d os => cell_regrown q2_0 d os
  have q2_1' : ∀ d os, (Sort.grow (redrawn w1 d) os).cell? ⟨w.heap.size + 1 + 1, 1, none⟩ = some (.int .i64 g) := fun d os => cell_regrown q2_1 d os
  have q3_0' : ∀ d os, (Sort.grow (redrawn w1 d) os).cell? ⟨w.heap.size + 1, 0, none⟩ = some (.int .i64 wk) := fun d os => cell_regrown q3_0 d os
  have q4_0' : ∀ d os, (Sort.grow (redrawn w1 d) os).cell? ⟨w.heap.size, 0, none⟩ = some (.pointer (some ⟨E.k, 0, none⟩)) := fun d os => cell_regrown q4_0 d os
  refine wp_region_below_tail 6 (by kernel_rfl) (by kernel_rfl) ?_
  simp only [List.take_succ_cons, List.take_zero, List.drop_succ_cons, List.drop_zero]
  repeat (go_big_quiet_step (first
    | (go_at_call 44; rename_i p; exact Calls.regrown_of (HCE.out _ (below_regrown w1 p.d p.os)))
    | (go_at_call 161; rename_i p; exact Calls.regrown_of (HAT.out _ (below_regrown w1 p.d p.os)))))
  refine wpQuiet_nil ?_
  intro w2 hw'
  obtain ⟨p, rfl⟩ := hw'
  have hb := below_regrown w1 p.d p.os
  clear q0_0' q1_0' q2_0' q2_1' q3_0' q4_0' q0_0 q1_0 q2_0 q2_1 q3_0 q4_0
  generalize Sort.grow (redrawn w1 p.d) p.os = w2 at *
  replace HG := Go.Lib.hid (HG.out.below hb)
  replace HE := Go.Lib.hid (HE.out.ext (below_ext hb t L))
  replace Hhk := Go.Lib.hid (ConSim.ext E.cf (prApp E.cf R0) E t Hhk.out (below_ext hb t L))
  replace HD := Go.Lib.hid (HD.out.trans (below_did hb t L))
  clear hb
  have q0_0 : w2.cell? ⟨w.heap.size + 1 + 1 + 1 + 1, 0, none⟩ = some (.func (.func 158) #[] #[.pointer (some ⟨w.heap.size, 0, none⟩), .pointer (some ⟨w.heap.size + 1, 0, none⟩), .pointer (some ⟨w.heap.size + 1 + 1, 0, none⟩), .pointer (some ⟨w.heap.size + 1 + 1 + 1, 0, none⟩)]) := HE.out.cell 0 0 rfl rfl
  have q1_0 : w2.cell? ⟨w.heap.size + 1 + 1 + 1, 0, none⟩ = some (.func (.func ghk) #[] chk) := HE.out.cell 1 0 rfl rfl
  have q2_0 : w2.cell? ⟨w.heap.size + 1 + 1, 0, none⟩ = some (.int .i64 n) := HE.out.cell 2 0 rfl rfl
  have q2_1 : w2.cell? ⟨w.heap.size + 1 + 1, 1, none⟩ = some (.int .i64 g) := HE.out.cell 2 1 rfl rfl
  have q3_0 : w2.cell? ⟨w.heap.size + 1, 0, none⟩ = some (.int .i64 wk) := HE.out.cell 3 0 rfl rfl
  have q4_0 : w2.cell? ⟨w.heap.size, 0, none⟩ = some (.pointer (some ⟨E.k, 0, none⟩)) := HE.out.cell 4 0 rfl rfl
  have HT := Go.Lib.hid (load_at hR (i := E.cf.state n) HG.out (cn1_con (k := k) hR (HE.out.sub (env' := [(w.heap.size + 1 + 1 + 1 + 1, [.func (.func 158) #[] #[.pointer (some ⟨w.heap.size, 0, none⟩), .pointer (some ⟨w.heap.size + 1, 0, none⟩), .pointer (some ⟨w.heap.size + 1 + 1, 0, none⟩), .pointer (some ⟨w.heap.size + 1 + 1 + 1, 0, none⟩)]]), (w.heap.size, [.pointer (some ⟨E.k, 0, none⟩)]), (w.heap.size + 1, [.int .i64 wk]), (w.heap.size + 1 + 1, [.int .i64 n, .int .i64 g]), (w.heap.size + 1 + 1 + 1, [.func (.func ghk) #[] chk])]) (by simp)) Hhk.out hw))
  go_wp2_with fail
  refine (HT.out).mono ?_
  rintro e w9 ⟨v2, L9, rfl, hd2, hg2, hc2⟩
  go_wp2
  go_ret
  exact ⟨v2, L9, rfl, HD.out.trans hd2, hg2, hc2⟩
theorem cancel_any (hR : RMono (prApp E.cf R0)) {m : Nat} {wk n g : Int} {vk : Value} {k : PR ρ} {L : Lab} {w : World} {S : St} (hg : Good E L S w) (hk : ConSim E.cf (prApp E.cf R0) E t isB m L w vk (.ret k)) (hw : 0 ≤ wk) :
    Calls Tryz.prog 65 #[.pointer (some ⟨E.k, 0, none⟩), .int .i64 wk, .agg #[.int .i64 n, .int .i64 g], vk] w (Post E.cf (prApp E.cf R0) E t m L w (S, some (cancelK E.cf wk n g k))) := by
  unfold cancelK
  by_cases h1 : E.cf.state n < 0
  · rw [if_pos h1]; exact cancel_i hR hg hk hw h1
  · rw [if_neg h1]; exact cancel_l hR hg hk hw h1
end
end Go.Proofs.YtgemjjpmoejgdaaGreat
