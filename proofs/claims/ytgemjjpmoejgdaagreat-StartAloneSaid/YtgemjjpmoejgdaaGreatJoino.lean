/- A Start, as code. -/
import Derived.Test.YtgemjjpmoejgdaaGreatJoinn
namespace Go.Proofs.YtgemjjpmoejgdaaGreat
open Go.RowKit
set_option maxRecDepth 100000
set_option linter.unusedVariables false

section
variable {ρ : Type} {R0 : ρ → Arg → St → St × Option (K (PR ρ))} {E : G} {t : Nat}
set_option maxHeartbeats 4000000 in
theorem start_i1 (hR : RMono (prApp E.cf R0)) {m : Nat} {wk ticks shard user : Int} {vk : Value} {k : PR ρ} {L : Lab} {w : World} {S : St} (hg : Good E L S w) (hk : ConSim E.cf (prApp E.cf R0) E t isHe m L w vk (.ret k)) (hw : 0 ≤ wk) (htu : ticks < 9223372036854775808) (h1 : ticks < 0) :
    Calls Tryz.prog 18 #[.pointer (some ⟨E.k, 0, none⟩), .int .i64 wk, .int .i64 ticks, .int .i64 shard, .int .i64 user, vk] w (Post E.cf (prApp E.cf R0) E t m L w (S, some (.idle (.ret (.st0 wk k))))) := by
  have henv := Env.nil L w
  have hd1 : decide (ticks < 0) = true := by simpa using h1
  have HD := Go.Lib.hid (Did.refl t L w)
  have HG := Go.Lib.hid hg
  have HE := Go.Lib.hid henv
  obtain ⟨ghk, chk, hvhk, hgfhk, _⟩ := id hk
  subst hvhk
  have henhk : ∀ (args : Array Value) (w : World), (callFunc ghk args).run Tryz.prog w = .ok (.enter ghk args) w := hgfhk
  have Hhk := Go.Lib.hid hk
  clear hg henv hk hgfhk
  have hb0 : Below w.heap.size w (((w.alloc (.cells #[.int .i64 ticks] 3)).alloc (.cells #[.pointer (some ⟨E.k, 0, none⟩), .int .i64 wk, .int .i64 ticks, .int .i64 shard, .int .i64 user, .func (.func ghk) #[] chk] 145)).alloc (.cells #[.pointer (some ⟨w.heap.size + 1, 0, none⟩)] 143)) := ((((Below.refl _ _).alloc (Nat.le_refl _) _).alloc (by first | (simp; done) | (simp; omega)) _).alloc (by first | (simp; done) | (simp; omega)) _)
  have HE0 : Hid (Env L (((w.alloc (.cells #[.int .i64 ticks] 3)).alloc (.cells #[.pointer (some ⟨E.k, 0, none⟩), .int .i64 wk, .int .i64 ticks, .int .i64 shard, .int .i64 user, .func (.func ghk) #[] chk] 145)).alloc (.cells #[.pointer (some ⟨w.heap.size + 1, 0, none⟩)] 143)) [(w.heap.size + 1 + 1, [.pointer (some ⟨w.heap.size + 1, 0, none⟩)]), (w.heap.size + 1, [.pointer (some ⟨E.k, 0, none⟩), .int .i64 wk, .int .i64 ticks, .int .i64 shard, .int .i64 user, .func (.func ghk) #[] chk]), (w.heap.size, [.int .i64 ticks])]) := Go.Lib.hid (Env.alloc_at (Env.alloc_at (Env.alloc_at HE.out (fun b hb => HG.out.new b (by first | exact hb | (simp at hb; omega))) [.int .i64 ticks] 3 (b := w.heap.size) (by first | rfl | (simp; done) | (simp; omega))) (fun b hb => HG.out.new b (by first | exact hb | (simp at hb; omega))) [.pointer (some ⟨E.k, 0, none⟩), .int .i64 wk, .int .i64 ticks, .int .i64 shard, .int .i64 user, .func (.func ghk) #[] chk] 145 (b := w.heap.size + 1) (by first | rfl | (simp; done) | (simp; omega))) (fun b hb => HG.out.new b (by first | exact hb | (simp at hb; omega))) [.pointer (some ⟨w.heap.size + 1, 0, none⟩)] 143 (b := w.heap.size + 1 + 1) (by first | rfl | (simp; done) | (simp; omega)))
  replace HG := Go.Lib.hid (HG.out.below hb0)
  replace HE := Go.Lib.hid (HE0.out)
  replace Hhk := Go.Lib.hid (ConSim.ext E.cf (prApp E.cf R0) E t Hhk.out (below_ext hb0 t L))
  replace HD := Go.Lib.hid (HD.out.trans (below_did hb0 t L))
  clear hb0 HE0
  have q0_0 : (((w.alloc (.cells #[.int .i64 ticks] 3)).alloc (.cells #[.pointer (some ⟨E.k, 0, none⟩), .int .i64 wk, .int .i64 ticks, .int .i64 shard, .int .i64 user, .func (.func ghk) #[] chk] 145)).alloc (.cells #[.pointer (some ⟨w.heap.size + 1, 0, none⟩)] 143)).cell? ⟨w.heap.size + 1 + 1, 0, none⟩ = some (.pointer (some ⟨w.heap.size + 1, 0, none⟩)) := HE.out.cell 0 0 rfl rfl
  have q1_0 : (((w.alloc (.cells #[.int .i64 ticks] 3)).alloc (.cells #[.pointer (some ⟨E.k, 0, none⟩), .int .i64 wk, .int .i64 ticks, .int .i64 shard, .int .i64 user, .func (.func ghk) #[] chk] 145)).alloc (.cells #[.pointer (some ⟨w.heap.size + 1, 0, none⟩)] 143)).cell? ⟨w.heap.size + 1, 0, none⟩ = some (.pointer (some ⟨E.k, 0, none⟩)) := HE.out.cell 1 0 rfl rfl
  have q1_1 : (((w.alloc (.cells #[.int .i64 ticks] 3)).alloc (.cells #[.pointer (some ⟨E.k, 0, none⟩), .int .i64 wk, .int .i64 ticks, .int .i64 shard, .int .i64 user, .func (.func ghk) #[] chk] 145)).alloc (.cells #[.pointer (some ⟨w.heap.size + 1, 0, none⟩)] 143)).cell? ⟨w.heap.size + 1, 1, none⟩ = some (.int .i64 wk) := HE.out.cell 1 1 rfl rfl
  have q1_2 : (((w.alloc (.cells #[.int .i64 ticks] 3)).alloc (.cells #[.pointer (some ⟨E.k, 0, none⟩), .int .i64 wk, .int .i64 ticks, .int .i64 shard, .int .i64 user, .func (.func ghk) #[] chk] 145)).alloc (.cells #[.pointer (some ⟨w.heap.size + 1, 0, none⟩)] 143)).cell? ⟨w.heap.size + 1, 2, none⟩ = some (.int .i64 ticks) := HE.out.cell 1 2 rfl rfl
  have q1_3 : (((w.alloc (.cells #[.int .i64 ticks] 3)).alloc (.cells #[.pointer (some ⟨E.k, 0, none⟩), .int .i64 wk, .int .i64 ticks, .int .i64 shard, .int .i64 user, .func (.func ghk) #[] chk] 145)).alloc (.cells #[.pointer (some ⟨w.heap.size + 1, 0, none⟩)] 143)).cell? ⟨w.heap.size + 1, 3, none⟩ = some (.int .i64 shard) := HE.out.cell 1 3 rfl rfl
  have q1_4 : (((w.alloc (.cells #[.int .i64 ticks] 3)).alloc (.cells #[.pointer (some ⟨E.k, 0, none⟩), .int .i64 wk, .int .i64 ticks, .int .i64 shard, .int .i64 user, .func (.func ghk) #[] chk] 145)).alloc (.cells #[.pointer (some ⟨w.heap.size + 1, 0, none⟩)] 143)).cell? ⟨w.heap.size + 1, 4, none⟩ = some (.int .i64 user) := HE.out.cell 1 4 rfl rfl
  have q1_5 : (((w.alloc (.cells #[.int .i64 ticks] 3)).alloc (.cells #[.pointer (some ⟨E.k, 0, none⟩), .int .i64 wk, .int .i64 ticks, .int .i64 shard, .int .i64 user, .func (.func ghk) #[] chk] 145)).alloc (.cells #[.pointer (some ⟨w.heap.size + 1, 0, none⟩)] 143)).cell? ⟨w.heap.size + 1, 5, none⟩ = some (.func (.func ghk) #[] chk) := HE.out.cell 1 5 rfl rfl
  have q2_0 : (((w.alloc (.cells #[.int .i64 ticks] 3)).alloc (.cells #[.pointer (some ⟨E.k, 0, none⟩), .int .i64 wk, .int .i64 ticks, .int .i64 shard, .int .i64 user, .func (.func ghk) #[] chk] 145)).alloc (.cells #[.pointer (some ⟨w.heap.size + 1, 0, none⟩)] 143)).cell? ⟨w.heap.size, 0, none⟩ = some (.int .i64 ticks) := HE.out.cell 2 0 rfl rfl
  go_enter Tryz.func18, Tryz.ntmps18
  go_wp2_with fail
  generalize (((w.alloc (.cells #[.int .i64 ticks] 3)).alloc (.cells #[.pointer (some ⟨E.k, 0, none⟩), .int .i64 wk, .int .i64 ticks, .int .i64 shard, .int .i64 user, .func (.func ghk) #[] chk] 145)).alloc (.cells #[.pointer (some ⟨w.heap.size + 1, 0, none⟩)] 143)) = w0 at *
  refine (idle_at HG.out (st0_con (bj := w.heap.size + 1 + 1) hR (HE.out.sub (env' := [(w.heap.size + 1 + 1, [.pointer (some ⟨w.heap.size + 1, 0, none⟩)]), (w.heap.size + 1, [.pointer (some ⟨E.k, 0, none⟩), .int .i64 wk, .int .i64 ticks, .int .i64 shard, .int .i64 user, .func (.func ghk) #[] chk])]) (by simp)) Hhk.out hw)).mono ?_
  rintro e w9 ⟨v2, L9, rfl, hd2, hg2, hc2⟩
  go_wp2
  go_ret
  exact ⟨v2, L9, rfl, HD.out.trans hd2, hg2, hc2⟩
set_option maxHeartbeats 4000000 in
theorem start_i2 (hR : RMono (prApp E.cf R0)) {m : Nat} {wk ticks shard user : Int} {vk : Value} {k : PR ρ} {L : Lab} {w : World} {S : St} (hg : Good E L S w) (hk : ConSim E.cf (prApp E.cf R0) E t isHe m L w vk (.ret k)) (hw : 0 ≤ wk) (htu : ticks < 9223372036854775808) (h1 : ¬ ticks < 0) (h2 : user < 0) :
    Calls Tryz.prog 18 #[.pointer (some ⟨E.k, 0, none⟩), .int .i64 wk, .int .i64 ticks, .int .i64 shard, .int .i64 user, vk] w (Post E.cf (prApp E.cf R0) E t m L w (S, some (.idle (.ret (.st0 wk k))))) := by
  have henv := Env.nil L w
  have hd1 : decide (ticks < 0) = false := by simpa using h1
  have hd2 : decide (user < 0) = true := by simpa using h2
  have HD := Go.Lib.hid (Did.refl t L w)
  have HG := Go.Lib.hid hg
  have HE := Go.Lib.hid henv
  obtain ⟨ghk, chk, hvhk, hgfhk, _⟩ := id hk
  subst hvhk
  have henhk : ∀ (args : Array Value) (w : World), (callFunc ghk args).run Tryz.prog w = .ok (.enter ghk args) w := hgfhk
  have Hhk := Go.Lib.hid hk
  clear hg henv hk hgfhk
  have hb0 : Below w.heap.size w (((w.alloc (.cells #[.int .i64 ticks] 3)).alloc (.cells #[.pointer (some ⟨E.k, 0, none⟩), .int .i64 wk, .int .i64 ticks, .int .i64 shard, .int .i64 user, .func (.func ghk) #[] chk] 145)).alloc (.cells #[.pointer (some ⟨w.heap.size + 1, 0, none⟩)] 143)) := ((((Below.refl _ _).alloc (Nat.le_refl _) _).alloc (by first | (simp; done) | (simp; omega)) _).alloc (by first | (simp; done) | (simp; omega)) _)
  have HE0 : Hid (Env L (((w.alloc (.cells #[.int .i64 ticks] 3)).alloc (.cells #[.pointer (some ⟨E.k, 0, none⟩), .int .i64 wk, .int .i64 ticks, .int .i64 shard, .int .i64 user, .func (.func ghk) #[] chk] 145)).alloc (.cells #[.pointer (some ⟨w.heap.size + 1, 0, none⟩)] 143)) [(w.heap.size + 1 + 1, [.pointer (some ⟨w.heap.size + 1, 0, none⟩)]), (w.heap.size + 1, [.pointer (some ⟨E.k, 0, none⟩), .int .i64 wk, .int .i64 ticks, .int .i64 shard, .int .i64 user, .func (.func ghk) #[] chk]), (w.heap.size, [.int .i64 ticks])]) := Go.Lib.hid (Env.alloc_at (Env.alloc_at (Env.alloc_at HE.out (fun b hb => HG.out.new b (by first | exact hb | (simp at hb; omega))) [.int .i64 ticks] 3 (b := w.heap.size) (by first | rfl | (simp; done) | (simp; omega))) (fun b hb => HG.out.new b (by first | exact hb | (simp at hb; omega))) [.pointer (some ⟨E.k, 0, none⟩), .int .i64 wk, .int .i64 ticks, .int .i64 shard, .int .i64 user, .func (.func ghk) #[] chk] 145 (b := w.heap.size + 1) (by first | rfl | (simp; done) | (simp; omega))) (fun b hb => HG.out.new b (by first | exact hb | (simp at hb; omega))) [.pointer (some ⟨w.heap.size + 1, 0, none⟩)] 143 (b := w.heap.size + 1 + 1) (by first | rfl | (simp; done) | (simp; omega)))
  replace HG := Go.Lib.hid (HG.out.below hb0)
  replace HE := Go.Lib.hid (HE0.out)
  replace Hhk := Go.Lib.hid (ConSim.ext E.cf (prApp E.cf R0) E t Hhk.out (below_ext hb0 t L))
  replace HD := Go.Lib.hid (HD.out.trans (below_did hb0 t L))
  clear hb0 HE0
  have q0_0 : (((w.alloc (.cells #[.int .i64 ticks] 3)).alloc (.cells #[.pointer (some ⟨E.k, 0, none⟩), .int .i64 wk, .int .i64 ticks, .int .i64 shard, .int .i64 user, .func (.func ghk) #[] chk] 145)).alloc (.cells #[.pointer (some ⟨w.heap.size + 1, 0, none⟩)] 143)).cell? ⟨w.heap.size + 1 + 1, 0, none⟩ = some (.pointer (some ⟨w.heap.size + 1, 0, none⟩)) := HE.out.cell 0 0 rfl rfl
  have q1_0 : (((w.alloc (.cells #[.int .i64 ticks] 3)).alloc (.cells #[.pointer (some ⟨E.k, 0, none⟩), .int .i64 wk, .int .i64 ticks, .int .i64 shard, .int .i64 user, .func (.func ghk) #[] chk] 145)).alloc (.cells #[.pointer (some ⟨w.heap.size + 1, 0, none⟩)] 143)).cell? ⟨w.heap.size + 1, 0, none⟩ = some (.pointer (some ⟨E.k, 0, none⟩)) := HE.out.cell 1 0 rfl rfl
  have q1_1 : (((w.alloc (.cells #[.int .i64 ticks] 3)).alloc (.cells #[.pointer (some ⟨E.k, 0, none⟩), .int .i64 wk, .int .i64 ticks, .int .i64 shard, .int .i64 user, .func (.func ghk) #[] chk] 145)).alloc (.cells #[.pointer (some ⟨w.heap.size + 1, 0, none⟩)] 143)).cell? ⟨w.heap.size + 1, 1, none⟩ = some (.int .i64 wk) := HE.out.cell 1 1 rfl rfl
  have q1_2 : (((w.alloc (.cells #[.int .i64 ticks] 3)).alloc (.cells #[.pointer (some ⟨E.k, 0, none⟩), .int .i64 wk, .int .i64 ticks, .int .i64 shard, .int .i64 user, .func (.func ghk) #[] chk] 145)).alloc (.cells #[.pointer (some ⟨w.heap.size + 1, 0, none⟩)] 143)).cell? ⟨w.heap.size + 1, 2, none⟩ = some (.int .i64 ticks) := HE.out.cell 1 2 rfl rfl
  have q1_3 : (((w.alloc (.cells #[.int .i64 ticks] 3)).alloc (.cells #[.pointer (some ⟨E.k, 0, none⟩), .int .i64 wk, .int .i64 ticks, .int .i64 shard, .int .i64 user, .func (.func ghk) #[] chk] 145)).alloc (.cells #[.pointer (some ⟨w.heap.size + 1, 0, none⟩)] 143)).cell? ⟨w.heap.size + 1, 3, none⟩ = some (.int .i64 shard) := HE.out.cell 1 3 rfl rfl
  have q1_4 : (((w.alloc (.cells #[.int .i64 ticks] 3)).alloc (.cells #[.pointer (some ⟨E.k, 0, none⟩), .int .i64 wk, .int .i64 ticks, .int .i64 shard, .int .i64 user, .func (.func ghk) #[] chk] 145)).alloc (.cells #[.pointer (some ⟨w.heap.size + 1, 0, none⟩)] 143)).cell? ⟨w.heap.size + 1, 4, none⟩ = some (.int .i64 user) := HE.out.cell 1 4 rfl rfl
  have q1_5 : (((w.alloc (.cells #[.int .i64 ticks] 3)).alloc (.cells #[.pointer (some ⟨E.k, 0, none⟩), .int .i64 wk, .int .i64 ticks, .int .i64 shard, .int .i64 user, .func (.func ghk) #[] chk] 145)).alloc (.cells #[.pointer (some ⟨w.heap.size + 1, 0, none⟩)] 143)).cell? ⟨w.heap.size + 1, 5, none⟩ = some (.func (.func ghk) #[] chk) := HE.out.cell 1 5 rfl rfl
  have q2_0 : (((w.alloc (.cells #[.int .i64 ticks] 3)).alloc (.cells #[.pointer (some ⟨E.k, 0, none⟩), .int .i64 wk, .int .i64 ticks, .int .i64 shard, .int .i64 user, .func (.func ghk) #[] chk] 145)).alloc (.cells #[.pointer (some ⟨w.heap.size + 1, 0, none⟩)] 143)).cell? ⟨w.heap.size, 0, none⟩ = some (.int .i64 ticks) := HE.out.cell 2 0 rfl rfl
  go_enter Tryz.func18, Tryz.ntmps18
  go_wp2_with fail
  generalize (((w.alloc (.cells #[.int .i64 ticks] 3)).alloc (.cells #[.pointer (some ⟨E.k, 0, none⟩), .int .i64 wk, .int .i64 ticks, .int .i64 shard, .int .i64 user, .func (.func ghk) #[] chk] 145)).alloc (.cells #[.pointer (some ⟨w.heap.size + 1, 0, none⟩)] 143)) = w0 at *
  refine (idle_at HG.out (st0_con (bj := w.heap.size + 1 + 1) hR (HE.out.sub (env' := [(w.heap.size + 1 + 1, [.pointer (some ⟨w.heap.size + 1, 0, none⟩)]), (w.heap.size + 1, [.pointer (some ⟨E.k, 0, none⟩), .int .i64 wk, .int .i64 ticks, .int .i64 shard, .int .i64 user, .func (.func ghk) #[] chk])]) (by simp)) Hhk.out hw)).mono ?_
  rintro e w9 ⟨v2, L9, rfl, hd2, hg2, hc2⟩
  go_wp2
  go_ret
  exact ⟨v2, L9, rfl, HD.out.trans hd2, hg2, hc2⟩
set_option maxHeartbeats 4000000 in
theorem start_i3 (hR : RMono (prApp E.cf R0)) {m : Nat} {wk ticks shard user : Int} {vk : Value} {k : PR ρ} {L : Lab} {w : World} {S : St} (hg : Good E L S w) (hk : ConSim E.cf (prApp E.cf R0) E t isHe m L w vk (.ret k)) (hw : 0 ≤ wk) (htu : ticks < 9223372036854775808) (h1 : ¬ ticks < 0) (h2 : ¬ user < 0) (h3 : shard < 0) :
    Calls Tryz.prog 18 #[.pointer (some ⟨E.k, 0, none⟩), .int .i64 wk, .int .i64 ticks, .int .i64 shard, .int .i64 user, vk] w (Post E.cf (prApp E.cf R0) E t m L w (S, some (.idle (.ret (.st0 wk k))))) := by
  have henv := Env.nil L w
  have hd1 : decide (ticks < 0) = false := by simpa using h1
  have hd2 : decide (user < 0) = false := by simpa using h2
  have hd3 : decide (shard < 0) = true := by simpa using h3
  have HD := Go.Lib.hid (Did.refl t L w)
  have HG := Go.Lib.hid hg
  have HE := Go.Lib.hid henv
  obtain ⟨ghk, chk, hvhk, hgfhk, _⟩ := id hk
  subst hvhk
  have henhk : ∀ (args : Array Value) (w : World), (callFunc ghk args).run Tryz.prog w = .ok (.enter ghk args) w := hgfhk
  have Hhk := Go.Lib.hid hk
  clear hg henv hk hgfhk
  have hb0 : Below w.heap.size w (((w.alloc (.cells #[.int .i64 ticks] 3)).alloc (.cells #[.pointer (some ⟨E.k, 0, none⟩), .int .i64 wk, .int .i64 ticks, .int .i64 shard, .int .i64 user, .func (.func ghk) #[] chk] 145)).alloc (.cells #[.pointer (some ⟨w.heap.size + 1, 0, none⟩)] 143)) := ((((Below.refl _ _).alloc (Nat.le_refl _) _).alloc (by first | (simp; done) | (simp; omega)) _).alloc (by first | (simp; done) | (simp; omega)) _)
  have HE0 : Hid (Env L (((w.alloc (.cells #[.int .i64 ticks] 3)).alloc (.cells #[.pointer (some ⟨E.k, 0, none⟩), .int .i64 wk, .int .i64 ticks, .int .i64 shard, .int .i64 user, .func (.func ghk) #[] chk] 145)).alloc (.cells #[.pointer (some ⟨w.heap.size + 1, 0, none⟩)] 143)) [(w.heap.size + 1 + 1, [.pointer (some ⟨w.heap.size + 1, 0, none⟩)]), (w.heap.size + 1, [.pointer (some ⟨E.k, 0, none⟩), .int .i64 wk, .int .i64 ticks, .int .i64 shard, .int .i64 user, .func (.func ghk) #[] chk]), (w.heap.size, [.int .i64 ticks])]) := Go.Lib.hid (Env.alloc_at (Env.alloc_at (Env.alloc_at HE.out (fun b hb => HG.out.new b (by first | exact hb | (simp at hb; omega))) [.int .i64 ticks] 3 (b := w.heap.size) (by first | rfl | (simp; done) | (simp; omega))) (fun b hb => HG.out.new b (by first | exact hb | (simp at hb; omega))) [.pointer (some ⟨E.k, 0, none⟩), .int .i64 wk, .int .i64 ticks, .int .i64 shard, .int .i64 user, .func (.func ghk) #[] chk] 145 (b := w.heap.size + 1) (by first | rfl | (simp; done) | (simp; omega))) (fun b hb => HG.out.new b (by first | exact hb | (simp at hb; omega))) [.pointer (some ⟨w.heap.size + 1, 0, none⟩)] 143 (b := w.heap.size + 1 + 1) (by first | rfl | (simp; done) | (simp; omega)))
  replace HG := Go.Lib.hid (HG.out.below hb0)
  replace HE := Go.Lib.hid (HE0.out)
  replace Hhk := Go.Lib.hid (ConSim.ext E.cf (prApp E.cf R0) E t Hhk.out (below_ext hb0 t L))
  replace HD := Go.Lib.hid (HD.out.trans (below_did hb0 t L))
  clear hb0 HE0
  have q0_0 : (((w.alloc (.cells #[.int .i64 ticks] 3)).alloc (.cells #[.pointer (some ⟨E.k, 0, none⟩), .int .i64 wk, .int .i64 ticks, .int .i64 shard, .int .i64 user, .func (.func ghk) #[] chk] 145)).alloc (.cells #[.pointer (some ⟨w.heap.size + 1, 0, none⟩)] 143)).cell? ⟨w.heap.size + 1 + 1, 0, none⟩ = some (.pointer (some ⟨w.heap.size + 1, 0, none⟩)) := HE.out.cell 0 0 rfl rfl
  have q1_0 : (((w.alloc (.cells #[.int .i64 ticks] 3)).alloc (.cells #[.pointer (some ⟨E.k, 0, none⟩), .int .i64 wk, .int .i64 ticks, .int .i64 shard, .int .i64 user, .func (.func ghk) #[] chk] 145)).alloc (.cells #[.pointer (some ⟨w.heap.size + 1, 0, none⟩)] 143)).cell? ⟨w.heap.size + 1, 0, none⟩ = some (.pointer (some ⟨E.k, 0, none⟩)) := HE.out.cell 1 0 rfl rfl
  have q1_1 : (((w.alloc (.cells #[.int .i64 ticks] 3)).alloc (.cells #[.pointer (some ⟨E.k, 0, none⟩), .int .i64 wk, .int .i64 ticks, .int .i64 shard, .int .i64 user, .func (.func ghk) #[] chk] 145)).alloc (.cells #[.pointer (some ⟨w.heap.size + 1, 0, none⟩)] 143)).cell? ⟨w.heap.size + 1, 1, none⟩ = some (.int .i64 wk) := HE.out.cell 1 1 rfl rfl
  have q1_2 : (((w.alloc (.cells #[.int .i64 ticks] 3)).alloc (.cells #[.pointer (some ⟨E.k, 0, none⟩), .int .i64 wk, .int .i64 ticks, .int .i64 shard, .int .i64 user, .func (.func ghk) #[] chk] 145)).alloc (.cells #[.pointer (some ⟨w.heap.size + 1, 0, none⟩)] 143)).cell? ⟨w.heap.size + 1, 2, none⟩ = some (.int .i64 ticks) := HE.out.cell 1 2 rfl rfl
  have q1_3 : (((w.alloc (.cells #[.int .i64 ticks] 3)).alloc (.cells #[.pointer (some ⟨E.k, 0, none⟩), .int .i64 wk, .int .i64 ticks, .int .i64 shard, .int .i64 user, .func (.func ghk) #[] chk] 145)).alloc (.cells #[.pointer (some ⟨w.heap.size + 1, 0, none⟩)] 143)).cell? ⟨w.heap.size + 1, 3, none⟩ = some (.int .i64 shard) := HE.out.cell 1 3 rfl rfl
  have q1_4 : (((w.alloc (.cells #[.int .i64 ticks] 3)).alloc (.cells #[.pointer (some ⟨E.k, 0, none⟩), .int .i64 wk, .int .i64 ticks, .int .i64 shard, .int .i64 user, .func (.func ghk) #[] chk] 145)).alloc (.cells #[.pointer (some ⟨w.heap.size + 1, 0, none⟩)] 143)).cell? ⟨w.heap.size + 1, 4, none⟩ = some (.int .i64 user) := HE.out.cell 1 4 rfl rfl
  have q1_5 : (((w.alloc (.cells #[.int .i64 ticks] 3)).alloc (.cells #[.pointer (some ⟨E.k, 0, none⟩), .int .i64 wk, .int .i64 ticks, .int .i64 shard, .int .i64 user, .func (.func ghk) #[] chk] 145)).alloc (.cells #[.pointer (some ⟨w.heap.size + 1, 0, none⟩)] 143)).cell? ⟨w.heap.size + 1, 5, none⟩ = some (.func (.func ghk) #[] chk) := HE.out.cell 1 5 rfl rfl
  have q2_0 : (((w.alloc (.cells #[.int .i64 ticks] 3)).alloc (.cells #[.pointer (some ⟨E.k, 0, none⟩), .int .i64 wk, .int .i64 ticks, .int .i64 shard, .int .i64 user, .func (.func ghk) #[] chk] 145)).alloc (.cells #[.pointer (some ⟨w.heap.size + 1, 0, none⟩)] 143)).cell? ⟨w.heap.size, 0, none⟩ = some (.int .i64 ticks) := HE.out.cell 2 0 rfl rfl
  go_enter Tryz.func18, Tryz.ntmps18
  go_wp2_with fail
  generalize (((w.alloc (.cells #[.int .i64 ticks] 3)).alloc (.cells #[.pointer (some ⟨E.k, 0, none⟩), .int .i64 wk, .int .i64 ticks, .int .i64 shard, .int .i64 user, .func (.func ghk) #[] chk] 145)).alloc (.cells #[.pointer (some ⟨w.heap.size + 1, 0, none⟩)] 143)) = w0 at *
  refine (idle_at HG.out (st0_con (bj := w.heap.size + 1 + 1) hR (HE.out.sub (env' := [(w.heap.size + 1 + 1, [.pointer (some ⟨w.heap.size + 1, 0, none⟩)]), (w.heap.size + 1, [.pointer (some ⟨E.k, 0, none⟩), .int .i64 wk, .int .i64 ticks, .int .i64 shard, .int .i64 user, .func (.func ghk) #[] chk])]) (by simp)) Hhk.out hw)).mono ?_
  rintro e w9 ⟨v2, L9, rfl, hd2, hg2, hc2⟩
  go_wp2
  go_ret
  exact ⟨v2, L9, rfl, HD.out.trans hd2, hg2, hc2⟩
set_option maxHeartbeats 4000000 in
theorem start_i4 (hR : RMono (prApp E.cf R0)) {m : Nat} {wk ticks shard user : Int} {vk : Value} {k : PR ρ} {L : Lab} {w : World} {S : St} (hg : Good E L S w) (hk : ConSim E.cf (prApp E.cf R0) E t isHe m L w vk (.ret k)) (hw : 0 ≤ wk) (htu : ticks < 9223372036854775808) (h1 : ¬ ticks < 0) (h2 : ¬ user < 0) (h3 : ¬ shard < 0) (h4 : (E.cf.workers : Int) ≤ shard) :
    Calls Tryz.prog 18 #[.pointer (some ⟨E.k, 0, none⟩), .int .i64 wk, .int .i64 ticks, .int .i64 shard, .int .i64 user, vk] w (Post E.cf (prApp E.cf R0) E t m L w (S, some (.idle (.ret (.st0 wk k))))) := by
  have henv := Env.nil L w
  have hd1 : decide (ticks < 0) = false := by simpa using h1
  have hd2 : decide (user < 0) = false := by simpa using h2
  have hd3 : decide (shard < 0) = false := by simpa using h3
  have hd4 : decide ((E.cf.workers : Int) ≤ shard) = true := by simpa using h4
  have HD := Go.Lib.hid (Did.refl t L w)
  have HG := Go.Lib.hid hg
  have HE := Go.Lib.hid henv
  obtain ⟨ghk, chk, hvhk, hgfhk, _⟩ := id hk
  subst hvhk
  have henhk : ∀ (args : Array Value) (w : World), (callFunc ghk args).run Tryz.prog w = .ok (.enter ghk args) w := hgfhk
  have Hhk := Go.Lib.hid hk
  clear hg henv hk hgfhk
  have hfld : ∀ w, (Instr.field 126 (.agg E.cf.vals) 0).run Tryz.prog w = .ok (.int .i64 E.cf.workers) w := fun _ => by kernel_rfl
  have hb0 : Below w.heap.size w (((w.alloc (.cells #[.int .i64 ticks] 3)).alloc (.cells #[.pointer (some ⟨E.k, 0, none⟩), .int .i64 wk, .int .i64 ticks, .int .i64 shard, .int .i64 user, .func (.func ghk) #[] chk] 145)).alloc (.cells #[.pointer (some ⟨w.heap.size + 1, 0, none⟩)] 143)) := ((((Below.refl _ _).alloc (Nat.le_refl _) _).alloc (by first | (simp; done) | (simp; omega)) _).alloc (by first | (simp; done) | (simp; omega)) _)
  have HE0 : Hid (Env L (((w.alloc (.cells #[.int .i64 ticks] 3)).alloc (.cells #[.pointer (some ⟨E.k, 0, none⟩), .int .i64 wk, .int .i64 ticks, .int .i64 shard, .int .i64 user, .func (.func ghk) #[] chk] 145)).alloc (.cells #[.pointer (some ⟨w.heap.size + 1, 0, none⟩)] 143)) [(w.heap.size + 1 + 1, [.pointer (some ⟨w.heap.size + 1, 0, none⟩)]), (w.heap.size + 1, [.pointer (some ⟨E.k, 0, none⟩), .int .i64 wk, .int .i64 ticks, .int .i64 shard, .int .i64 user, .func (.func ghk) #[] chk]), (w.heap.size, [.int .i64 ticks])]) := Go.Lib.hid (Env.alloc_at (Env.alloc_at (Env.alloc_at HE.out (fun b hb => HG.out.new b (by first | exact hb | (simp at hb; omega))) [.int .i64 ticks] 3 (b := w.heap.size) (by first | rfl | (simp; done) | (simp; omega))) (fun b hb => HG.out.new b (by first | exact hb | (simp at hb; omega))) [.pointer (some ⟨E.k, 0, none⟩), .int .i64 wk, .int .i64 ticks, .int .i64 shard, .int .i64 user, .func (.func ghk) #[] chk] 145 (b := w.heap.size + 1) (by first | rfl | (simp; done) | (simp; omega))) (fun b hb => HG.out.new b (by first | exact hb | (simp at hb; omega))) [.pointer (some ⟨w.heap.size + 1, 0, none⟩)] 143 (b := w.heap.size + 1 + 1) (by first | rfl | (simp; done) | (simp; omega)))
  replace HG := Go.Lib.hid (HG.out.below hb0)
  replace HE := Go.Lib.hid (HE0.out)
  replace Hhk := Go.Lib.hid (ConSim.ext E.cf (prApp E.cf R0) E t Hhk.out (below_ext hb0 t L))
  replace HD := Go.Lib.hid (HD.out.trans (below_did hb0 t L))
  clear hb0 HE0
  have q0_0 : (((w.alloc (.cells #[.int .i64 ticks] 3)).alloc (.cells #[.pointer (some ⟨E.k, 0, none⟩), .int .i64 wk, .int .i64 ticks, .int .i64 shard, .int .i64 user, .func (.func ghk) #[] chk] 145)).alloc (.cells #[.pointer (some ⟨w.heap.size + 1, 0, none⟩)] 143)).cell? ⟨w.heap.size + 1 + 1, 0, none⟩ = some (.pointer (some ⟨w.heap.size + 1, 0, none⟩)) := HE.out.cell 0 0 rfl rfl
  have q1_0 : (((w.alloc (.cells #[.int .i64 ticks] 3)).alloc (.cells #[.pointer (some ⟨E.k, 0, none⟩), .int .i64 wk, .int .i64 ticks, .int .i64 shard, .int .i64 user, .func (.func ghk) #[] chk] 145)).alloc (.cells #[.pointer (some ⟨w.heap.size + 1, 0, none⟩)] 143)).cell? ⟨w.heap.size + 1, 0, none⟩ = some (.pointer (some ⟨E.k, 0, none⟩)) := HE.out.cell 1 0 rfl rfl
  have q1_1 : (((w.alloc (.cells #[.int .i64 ticks] 3)).alloc (.cells #[.pointer (some ⟨E.k, 0, none⟩), .int .i64 wk, .int .i64 ticks, .int .i64 shard, .int .i64 user, .func (.func ghk) #[] chk] 145)).alloc (.cells #[.pointer (some ⟨w.heap.size + 1, 0, none⟩)] 143)).cell? ⟨w.heap.size + 1, 1, none⟩ = some (.int .i64 wk) := HE.out.cell 1 1 rfl rfl
  have q1_2 : (((w.alloc (.cells #[.int .i64 ticks] 3)).alloc (.cells #[.pointer (some ⟨E.k, 0, none⟩), .int .i64 wk, .int .i64 ticks, .int .i64 shard, .int .i64 user, .func (.func ghk) #[] chk] 145)).alloc (.cells #[.pointer (some ⟨w.heap.size + 1, 0, none⟩)] 143)).cell? ⟨w.heap.size + 1, 2, none⟩ = some (.int .i64 ticks) := HE.out.cell 1 2 rfl rfl
  have q1_3 : (((w.alloc (.cells #[.int .i64 ticks] 3)).alloc (.cells #[.pointer (some ⟨E.k, 0, none⟩), .int .i64 wk, .int .i64 ticks, .int .i64 shard, .int .i64 user, .func (.func ghk) #[] chk] 145)).alloc (.cells #[.pointer (some ⟨w.heap.size + 1, 0, none⟩)] 143)).cell? ⟨w.heap.size + 1, 3, none⟩ = some (.int .i64 shard) := HE.out.cell 1 3 rfl rfl
  have q1_4 : (((w.alloc (.cells #[.int .i64 ticks] 3)).alloc (.cells #[.pointer (some ⟨E.k, 0, none⟩), .int .i64 wk, .int .i64 ticks, .int .i64 shard, .int .i64 user, .func (.func ghk) #[] chk] 145)).alloc (.cells #[.pointer (some ⟨w.heap.size + 1, 0, none⟩)] 143)).cell? ⟨w.heap.size + 1, 4, none⟩ = some (.int .i64 user) := HE.out.cell 1 4 rfl rfl
  have q1_5 : (((w.alloc (.cells #[.int .i64 ticks] 3)).alloc (.cells #[.pointer (some ⟨E.k, 0, none⟩), .int .i64 wk, .int .i64 ticks, .int .i64 shard, .int .i64 user, .func (.func ghk) #[] chk] 145)).alloc (.cells #[.pointer (some ⟨w.heap.size + 1, 0, none⟩)] 143)).cell? ⟨w.heap.size + 1, 5, none⟩ = some (.func (.func ghk) #[] chk) := HE.out.cell 1 5 rfl rfl
  have q2_0 : (((w.alloc (.cells #[.int .i64 ticks] 3)).alloc (.cells #[.pointer (some ⟨E.k, 0, none⟩), .int .i64 wk, .int .i64 ticks, .int .i64 shard, .int .i64 user, .func (.func ghk) #[] chk] 145)).alloc (.cells #[.pointer (some ⟨w.heap.size + 1, 0, none⟩)] 143)).cell? ⟨w.heap.size, 0, none⟩ = some (.int .i64 ticks) := HE.out.cell 2 0 rfl rfl
  go_enter Tryz.func18, Tryz.ntmps18
  go_wp2_with fail
  generalize (((w.alloc (.cells #[.int .i64 ticks] 3)).alloc (.cells #[.pointer (some ⟨E.k, 0, none⟩), .int .i64 wk, .int .i64 ticks, .int .i64 shard, .int .i64 user, .func (.func ghk) #[] chk] 145)).alloc (.cells #[.pointer (some ⟨w.heap.size + 1, 0, none⟩)] 143)) = w0 at *
  refine (core_config HG.out).mono ?_
  rintro e w1 ⟨rfl, hb⟩
  clear q0_0 q1_0 q1_1 q1_2 q1_3 q1_4 q1_5 q2_0
  replace HG := Go.Lib.hid (HG.out.below hb)
  replace HE := Go.Lib.hid (HE.out.ext (below_ext hb t L))
  replace Hhk := Go.Lib.hid (ConSim.ext E.cf (prApp E.cf R0) E t Hhk.out (below_ext hb t L))
  replace HD := Go.Lib.hid (HD.out.trans (below_did hb t L))
  clear hb
  have q0_0 : w1.cell? ⟨w.heap.size + 1 + 1, 0, none⟩ = some (.pointer (some ⟨w.heap.size + 1, 0, none⟩)) := HE.out.cell 0 0 rfl rfl
  have q1_0 : w1.cell? ⟨w.heap.size + 1, 0, none⟩ = some (.pointer (some ⟨E.k, 0, none⟩)) := HE.out.cell 1 0 rfl rfl
  have q1_1 : w1.cell? ⟨w.heap.size + 1, 1, none⟩ = some (.int .i64 wk) := HE.out.cell 1 1 rfl rfl
  have q1_2 : w1.cell? ⟨w.heap.size + 1, 2, none⟩ = some (.int .i64 ticks) := HE.out.cell 1 2 rfl rfl
  have q1_3 : w1.cell? ⟨w.heap.size + 1, 3, none⟩ = some (.int .i64 shard) := HE.out.cell 1 3 rfl rfl
  have q1_4 : w1.cell? ⟨w.heap.size + 1, 4, none⟩ = some (.int .i64 user) := HE.out.cell 1 4 rfl rfl
  have q1_5 : w1.cell? ⟨w.heap.size + 1, 5, none⟩ = some (.func (.func ghk) #[] chk) := HE.out.cell 1 5 rfl rfl
  have q2_0 : w1.cell? ⟨w.heap.size, 0, none⟩ = some (.int .i64 ticks) := HE.out.cell 2 0 rfl rfl
  generalize E.cf.vals = vv at *
  go_wp2_with fail
  refine (idle_at HG.out (st0_con (bj := w.heap.size + 1 + 1) hR (HE.out.sub (env' := [(w.heap.size + 1 + 1, [.pointer (some ⟨w.heap.size + 1, 0, none⟩)]), (w.heap.size + 1, [.pointer (some ⟨E.k, 0, none⟩), .int .i64 wk, .int .i64 ticks, .int .i64 shard, .int .i64 user, .func (.func ghk) #[] chk])]) (by simp)) Hhk.out hw)).mono ?_
  rintro e w9 ⟨v2, L9, rfl, hd2, hg2, hc2⟩
  go_wp2
  go_ret
  exact ⟨v2, L9, rfl, HD.out.trans hd2, hg2, hc2⟩
set_option maxHeartbeats 4000000 in
theorem start_go (hR : RMono (prApp E.cf R0)) {m : Nat} {wk ticks shard user : Int} {vk : Value} {k : PR ρ} {L : Lab} {w : World} {S : St} (hg : Good E L S w) (hk : ConSim E.cf (prApp E.cf R0) E t isHe m L w vk (.ret k)) (hw : 0 ≤ wk) (htu : ticks < 9223372036854775808) (h1 : ¬ ticks < 0) (h2 : ¬ user < 0) (h3 : ¬ shard < 0) (h4 : ¬ (E.cf.workers : Int) ≤ shard) :
    Calls Tryz.prog 18 #[.pointer (some ⟨E.k, 0, none⟩), .int .i64 wk, .int .i64 ticks, .int .i64 shard, .int .i64 user, vk] w (Post E.cf (prApp E.cf R0) E t m L w (S, some (.load 0 (.ret (.st1 wk ticks shard user k))))) := by
  have henv := Env.nil L w
  have hd1 : decide (ticks < 0) = false := by simpa using h1
  have hd2 : decide (user < 0) = false := by simpa using h2
  have hd3 : decide (shard < 0) = false := by simpa using h3
  have hd4 : decide ((E.cf.workers : Int) ≤ shard) = false := by simpa using h4
  have htk : 0 ≤ ticks := by omega
  have HD := Go.Lib.hid (Did.refl t L w)
  have HG := Go.Lib.hid hg
  have HE := Go.Lib.hid henv
  obtain ⟨ghk, chk, hvhk, hgfhk, _⟩ := id hk
  subst hvhk
  have henhk : ∀ (args : Array Value) (w : World), (callFunc ghk args).run Tryz.prog w = .ok (.enter ghk args) w := hgfhk
  have Hhk := Go.Lib.hid hk
  clear hg henv hk hgfhk
  have hfld : ∀ w, (Instr.field 126 (.agg E.cf.vals) 0).run Tryz.prog w = .ok (.int .i64 E.cf.workers) w := fun _ => by kernel_rfl
  have hb0 : Below w.heap.size w (((w.alloc (.cells #[.int .i64 ticks] 3)).alloc (.cells #[.pointer (some ⟨E.k, 0, none⟩), .int .i64 wk, .int .i64 ticks, .int .i64 shard, .int .i64 user, .func (.func ghk) #[] chk] 145)).alloc (.cells #[.pointer (some ⟨w.heap.size + 1, 0, none⟩)] 143)) := ((((Below.refl _ _).alloc (Nat.le_refl _) _).alloc (by first | (simp; done) | (simp; omega)) _).alloc (by first | (simp; done) | (simp; omega)) _)
  have HE0 : Hid (Env L (((w.alloc (.cells #[.int .i64 ticks] 3)).alloc (.cells #[.pointer (some ⟨E.k, 0, none⟩), .int .i64 wk, .int .i64 ticks, .int .i64 shard, .int .i64 user, .func (.func ghk) #[] chk] 145)).alloc (.cells #[.pointer (some ⟨w.heap.size + 1, 0, none⟩)] 143)) [(w.heap.size + 1 + 1, [.pointer (some ⟨w.heap.size + 1, 0, none⟩)]), (w.heap.size + 1, [.pointer (some ⟨E.k, 0, none⟩), .int .i64 wk, .int .i64 ticks, .int .i64 shard, .int .i64 user, .func (.func ghk) #[] chk]), (w.heap.size, [.int .i64 ticks])]) := Go.Lib.hid (Env.alloc_at (Env.alloc_at (Env.alloc_at HE.out (fun b hb => HG.out.new b (by first | exact hb | (simp at hb; omega))) [.int .i64 ticks] 3 (b := w.heap.size) (by first | rfl | (simp; done) | (simp; omega))) (fun b hb => HG.out.new b (by first | exact hb | (simp at hb; omega))) [.pointer (some ⟨E.k, 0, none⟩), .int .i64 wk, .int .i64 ticks, .int .i64 shard, .int .i64 user, .func (.func ghk) #[] chk] 145 (b := w.heap.size + 1) (by first | rfl | (simp; done) | (simp; omega))) (fun b hb => HG.out.new b (by first | exact hb | (simp at hb; omega))) [.pointer (some ⟨w.heap.size + 1, 0, none⟩)] 143 (b := w.heap.size + 1 + 1) (by first | rfl | (simp; done) | (simp; omega)))
  replace HG := Go.Lib.hid (HG.out.below hb0)
  replace HE := Go.Lib.hid (HE0.out)
  replace Hhk := Go.Lib.hid (ConSim.ext E.cf (prApp E.cf R0) E t Hhk.out (below_ext hb0 t L))
  replace HD := Go.Lib.hid (HD.out.trans (below_did hb0 t L))
  clear hb0 HE0
  have q0_0 : (((w.alloc (.cells #[.int .i64 ticks] 3)).alloc (.cells #[.pointer (some ⟨E.k, 0, none⟩), .int .i64 wk, .int .i64 ticks, .int .i64 shard, .int .i64 user, .func (.func ghk) #[] chk] 145)).alloc (.cells #[.pointer (some ⟨w.heap.size + 1, 0, none⟩)] 143)).cell? ⟨w.heap.size + 1 + 1, 0, none⟩ = some (.pointer (some ⟨w.heap.size + 1, 0, none⟩)) := HE.out.cell 0 0 rfl rfl
  have q1_0 : (((w.alloc (.cells #[.int .i64 ticks] 3)).alloc (.cells #[.pointer (some ⟨E.k, 0, none⟩), .int .i64 wk, .int .i64 ticks, .int .i64 shard, .int .i64 user, .func (.func ghk) #[] chk] 145)).alloc (.cells #[.pointer (some ⟨w.heap.size + 1, 0, none⟩)] 143)).cell? ⟨w.heap.size + 1, 0, none⟩ = some (.pointer (some ⟨E.k, 0, none⟩)) := HE.out.cell 1 0 rfl rfl
  have q1_1 : (((w.alloc (.cells #[.int .i64 ticks] 3)).alloc (.cells #[.pointer (some ⟨E.k, 0, none⟩), .int .i64 wk, .int .i64 ticks, .int .i64 shard, .int .i64 user, .func (.func ghk) #[] chk] 145)).alloc (.cells #[.pointer (some ⟨w.heap.size + 1, 0, none⟩)] 143)).cell? ⟨w.heap.size + 1, 1, none⟩ = some (.int .i64 wk) := HE.out.cell 1 1 rfl rfl
  have q1_2 : (((w.alloc (.cells #[.int .i64 ticks] 3)).alloc (.cells #[.pointer (some ⟨E.k, 0, none⟩), .int .i64 wk, .int .i64 ticks, .int .i64 shard, .int .i64 user, .func (.func ghk) #[] chk] 145)).alloc (.cells #[.pointer (some ⟨w.heap.size + 1, 0, none⟩)] 143)).cell? ⟨w.heap.size + 1, 2, none⟩ = some (.int .i64 ticks) := HE.out.cell 1 2 rfl rfl
  have q1_3 : (((w.alloc (.cells #[.int .i64 ticks] 3)).alloc (.cells #[.pointer (some ⟨E.k, 0, none⟩), .int .i64 wk, .int .i64 ticks, .int .i64 shard, .int .i64 user, .func (.func ghk) #[] chk] 145)).alloc (.cells #[.pointer (some ⟨w.heap.size + 1, 0, none⟩)] 143)).cell? ⟨w.heap.size + 1, 3, none⟩ = some (.int .i64 shard) := HE.out.cell 1 3 rfl rfl
  have q1_4 : (((w.alloc (.cells #[.int .i64 ticks] 3)).alloc (.cells #[.pointer (some ⟨E.k, 0, none⟩), .int .i64 wk, .int .i64 ticks, .int .i64 shard, .int .i64 user, .func (.func ghk) #[] chk] 145)).alloc (.cells #[.pointer (some ⟨w.heap.size + 1, 0, none⟩)] 143)).cell? ⟨w.heap.size + 1, 4, none⟩ = some (.int .i64 user) := HE.out.cell 1 4 rfl rfl
  have q1_5 : (((w.alloc (.cells #[.int .i64 ticks] 3)).alloc (.cells #[.pointer (some ⟨E.k, 0, none⟩), .int .i64 wk, .int .i64 ticks, .int .i64 shard, .int .i64 user, .func (.func ghk) #[] chk] 145)).alloc (.cells #[.pointer (some ⟨w.heap.size + 1, 0, none⟩)] 143)).cell? ⟨w.heap.size + 1, 5, none⟩ = some (.func (.func ghk) #[] chk) := HE.out.cell 1 5 rfl rfl
  have q2_0 : (((w.alloc (.cells #[.int .i64 ticks] 3)).alloc (.cells #[.pointer (some ⟨E.k, 0, none⟩), .int .i64 wk, .int .i64 ticks, .int .i64 shard, .int .i64 user, .func (.func ghk) #[] chk] 145)).alloc (.cells #[.pointer (some ⟨w.heap.size + 1, 0, none⟩)] 143)).cell? ⟨w.heap.size, 0, none⟩ = some (.int .i64 ticks) := HE.out.cell 2 0 rfl rfl
  go_enter Tryz.func18, Tryz.ntmps18
  go_wp2_with fail
  generalize (((w.alloc (.cells #[.int .i64 ticks] 3)).alloc (.cells #[.pointer (some ⟨E.k, 0, none⟩), .int .i64 wk, .int .i64 ticks, .int .i64 shard, .int .i64 user, .func (.func ghk) #[] chk] 145)).alloc (.cells #[.pointer (some ⟨w.heap.size + 1, 0, none⟩)] 143)) = w0 at *
  refine (core_config HG.out).mono ?_
  rintro e w1 ⟨rfl, hb⟩
  clear q0_0 q1_0 q1_1 q1_2 q1_3 q1_4 q1_5 q2_0
  replace HG := Go.Lib.hid (HG.out.below hb)
  replace HE := Go.Lib.hid (HE.out.ext (below_ext hb t L))
  replace Hhk := Go.Lib.hid (ConSim.ext E.cf (prApp E.cf R0) E t Hhk.out (below_ext hb t L))
  replace HD := Go.Lib.hid (HD.out.trans (below_did hb t L))
  clear hb
  have q0_0 : w1.cell? ⟨w.heap.size + 1 + 1, 0, none⟩ = some (.pointer (some ⟨w.heap.size + 1, 0, none⟩)) := HE.out.cell 0 0 rfl rfl
  have q1_0 : w1.cell? ⟨w.heap.size + 1, 0, none⟩ = some (.pointer (some ⟨E.k, 0, none⟩)) := HE.out.cell 1 0 rfl rfl
  have q1_1 : w1.cell? ⟨w.heap.size + 1, 1, none⟩ = some (.int .i64 wk) := HE.out.cell 1 1 rfl rfl
  have q1_2 : w1.cell? ⟨w.heap.size + 1, 2, none⟩ = some (.int .i64 ticks) := HE.out.cell 1 2 rfl rfl
  have q1_3 : w1.cell? ⟨w.heap.size + 1, 3, none⟩ = some (.int .i64 shard) := HE.out.cell 1 3 rfl rfl
  have q1_4 : w1.cell? ⟨w.heap.size + 1, 4, none⟩ = some (.int .i64 user) := HE.out.cell 1 4 rfl rfl
  have q1_5 : w1.cell? ⟨w.heap.size + 1, 5, none⟩ = some (.func (.func ghk) #[] chk) := HE.out.cell 1 5 rfl rfl
  have q2_0 : w1.cell? ⟨w.heap.size, 0, none⟩ = some (.int .i64 ticks) := HE.out.cell 2 0 rfl rfl
  generalize E.cf.vals = vv at *
  go_wp2_with fail
  refine (core_cells HG.out).mono ?_
  rintro e w2 ⟨rfl, hb⟩
  subst hb
  go_wp2_with fail
  refine (core_plan HG.out).mono ?_
  rintro e w3 ⟨rfl, hb⟩
  subst hb
  go_wp2_with fail
  refine (plan_Clock _ _).mono ?_
  rintro e w4 ⟨rfl, hb⟩
  subst hb
  go_wp2_with fail
  refine (load_at hR (i := 0) HG.out (st1_con (bk := w.heap.size) (bj := w.heap.size + 1 + 1) hR (HE.out.sub (env' := [(w.heap.size, [.int .i64 ticks]), (w.heap.size + 1 + 1, [.pointer (some ⟨w.heap.size + 1, 0, none⟩)]), (w.heap.size + 1, [.pointer (some ⟨E.k, 0, none⟩), .int .i64 wk, .int .i64 ticks, .int .i64 shard, .int .i64 user, .func (.func ghk) #[] chk])]) (by simp)) Hhk.out hw htk htu)).mono ?_
  rintro e w9 ⟨v2, L9, rfl, hd2, hg2, hc2⟩
  go_wp2
  go_ret
  exact ⟨v2, L9, rfl, HD.out.trans hd2, hg2, hc2⟩
theorem start_any (hR : RMono (prApp E.cf R0)) {m : Nat} {wk ticks shard user : Int} {vk : Value} {k : PR ρ} {L : Lab} {w : World} {S : St} (hg : Good E L S w) (hk : ConSim E.cf (prApp E.cf R0) E t isHe m L w vk (.ret k)) (hw : 0 ≤ wk) (htu : ticks < 9223372036854775808) :
    Calls Tryz.prog 18 #[.pointer (some ⟨E.k, 0, none⟩), .int .i64 wk, .int .i64 ticks, .int .i64 shard, .int .i64 user, vk] w (Post E.cf (prApp E.cf R0) E t m L w (S, some (startK E.cf wk ticks shard user k))) := by
  unfold startK
  by_cases h1 : ticks < 0
  · rw [if_pos (.inl h1)]; exact start_i1 hR hg hk hw htu h1
  · by_cases h2 : user < 0
    · rw [if_pos (.inr (.inl h2))]; exact start_i2 hR hg hk hw htu h1 h2
    · by_cases h3 : shard < 0
      · rw [if_pos (.inr (.inr (.inl h3)))]; exact start_i3 hR hg hk hw htu h1 h2 h3
      · by_cases h4 : (E.cf.workers : Int) ≤ shard
        · rw [if_pos (.inr (.inr (.inr h4)))]; exact start_i4 hR hg hk hw htu h1 h2 h3 h4
        · rw [if_neg (by omega)]; exact start_go hR hg hk hw htu h1 h2 h3 h4
end
end Go.Proofs.YtgemjjpmoejgdaaGreat
/- The Points of Cancels, Rearms and Migrates are right. -/
namespace Go.Proofs.YtgemjjpmoejgdaaGreat
open Go.RowKit
set_option maxRecDepth 100000
set_option linter.unusedVariables false

end Go.Proofs.YtgemjjpmoejgdaaGreat
/- A handle's cell; whether it is armed; arms of quiet calls. -/
namespace Go.Proofs.YtgemjjpmoejgdaaGreat
open Go.RowKit
set_option maxRecDepth 100000
set_option linter.unusedVariables false

section
variable {E : G}
end
end Go.Proofs.YtgemjjpmoejgdaaGreat
/- A Cancel, as code. -/
namespace Go.Proofs.YtgemjjpmoejgdaaGreat
open Go.RowKit
set_option maxRecDepth 100000
set_option linter.unusedVariables false

section
variable {ρ : Type} {R0 : ρ → Arg → St → St × Option (K (PR ρ))} {E : G} {t : Nat}
end
end Go.Proofs.YtgemjjpmoejgdaaGreat
/- A Rearm, as code. -/
namespace Go.Proofs.YtgemjjpmoejgdaaGreat
open Go.RowKit
set_option maxRecDepth 100000
set_option linter.unusedVariables false

section
variable {ρ : Type} {R0 : ρ → Arg → St → St × Option (K (PR ρ))} {E : G} {t : Nat}
end
end Go.Proofs.YtgemjjpmoejgdaaGreat
/- A Migrate, as code. -/
namespace Go.Proofs.YtgemjjpmoejgdaaGreat
open Go.RowKit
set_option maxRecDepth 100000
set_option linter.unusedVariables false

section
variable {ρ : Type} {R0 : ρ → Arg → St → St × Option (K (PR ρ))} {E : G} {t : Nat}
/-- What 'armed' is handed: it is told the deadline, and whether the handle is armed. -/
def ArmSim (R0 : ρ → Arg → St → St × Option (K (PR ρ))) (E : G) (t : Nat) (g : Int) (m : Nat) (L : Lab) (w : World) (v : Value) (r : PR ρ) : Prop :=
  ∃ f cap, v = .func (.func f) #[] cap ∧ EntersF f ∧ ∀ x L' w' S, x < 18446744073709551616 → Ext t L w L' w' → Good E L' S w' → Bd (prApp E.cf R0 r (.w x) S).1 →
    Calls Tryz.prog f (#[.int .i64 (part x 2 30 : Nat), .bool (armedW x g)] ++ cap) w' (Post E.cf (prApp E.cf R0) E t m L' w' (prApp E.cf R0 r (.w x) S))
theorem ArmSim.ext {g : Int} {m : Nat} {L L' : Lab} {w w' : World} {v : Value} {r : PR ρ} (h : ArmSim R0 E t g m L w v r) (hx : Ext t L w L' w') : ArmSim R0 E t g m L' w' v r := by
  obtain ⟨f, cap, h1, h2, h3⟩ := h
  exact ⟨f, cap, h1, h2, fun x L2 w2 S h4 hx2 hg hb => h3 x L2 w2 S h4 (hx.trans hx2) hg hb⟩
end
end Go.Proofs.YtgemjjpmoejgdaaGreat
/- Migrate, as code: what is behind the first step. -/
namespace Go.Proofs.YtgemjjpmoejgdaaGreat
open Go.RowKit
set_option maxRecDepth 100000
set_option linter.unusedVariables false

section
variable {ρ : Type} {R0 : ρ → Arg → St → St × Option (K (PR ρ))} {E : G} {t : Nat}
end
end Go.Proofs.YtgemjjpmoejgdaaGreat
/- Migrate, as code. -/
namespace Go.Proofs.YtgemjjpmoejgdaaGreat
open Go.RowKit
set_option maxRecDepth 100000
set_option linter.unusedVariables false

section
variable {ρ : Type} {R0 : ρ → Arg → St → St × Option (K (PR ρ))} {E : G} {t : Nat}
end
end Go.Proofs.YtgemjjpmoejgdaaGreat
/- What a caller's continuation of a Start writes down; the example of chapter 16. -/
namespace Go.Proofs.YtgemjjpmoejgdaaGreat
open Go.RowKit
set_option maxRecDepth 100000
set_option linter.unusedVariables false

/-- A caller's continuation that writes one variable down, where what comes is as looked for. -/
def onR (p : Int → Int → Int → Bool) (f : Int → Int → Int → Value) : Nat × Nat → Arg → St → St × Option (K (PR (Nat × Nat)))
  | a, .he n g e, S => if p n g e = true ∧ S.knows a then (S.setR a (f n g e), none) else (S.burst, none)
  | _, _, S => (S, none)
theorem onR_mono (p : Int → Int → Int → Bool) (f : Int → Int → Int → Value) : ∀ (r : Nat × Nat) (a : Arg) (S : St), S.cnt ≤ (onR p f r a S).1.cnt ∧ S.log.length ≤ (onR p f r a S).1.log.length := by
  intro r a S
  cases a <;> try exact ⟨Nat.le_refl _, Nat.le_refl _⟩
  unfold onR
  dsimp only
  split
  · exact ⟨Nat.le_refl _, Nat.le_refl _⟩
  · exact ⟨by unfold St.burst; dsimp only; omega, Nat.le_refl _⟩
theorem onR_he (p : Int → Int → Int → Bool) (f : Int → Int → Int → Value) (a : Nat × Nat) (n g e : Int) (S : St) (hp : p n g e = true) (hk : S.knows a) : onR p f a (.he n g e) S = (S.setR a (f n g e), none) := by
  show (if p n g e = true ∧ S.knows a then _ else _) = _
  rw [if_pos ⟨hp, hk⟩]
theorem prApp_user {ρ : Type} (c : Cf) (R0 : ρ → Arg → St → St × Option (K (PR ρ))) (r : ρ) (a : Arg) (S : St) : prApp c R0 (.user r) a S = R0 r a S := by rw [prApp]

theorem CodeSim.le {ρ : Type} (cf : Cf) (R : ρ → Arg → St → St × Option (K ρ)) (E : G) (t : Nat) {n m : Nat} {L : Lab} {w : World} {v : Value} {k : Option (K ρ)} (h : CodeSim cf R E t m L w v k) (hn : n ≤ m) : CodeSim cf R E t n L w v k := by
  induction m with
  | zero => obtain rfl : n = 0 := by omega
            exact h
  | succ m ih =>
    by_cases e : n = m + 1
    · subst e; exact h
    · exact ih (CodeSim.down cf R E t h) (by omega)
/-- A core in which nothing has happened. -/
theorem shop_fresh {c : Cf} (hok : c.Ok) : Shop c (freshM c) (List.range' 0 c.nodes) (List.range' 0 c.tickets) (fun _ => []) where
  nodes := Ch.of_chain (S := S0 c) (lk := nlk c) (nodes_chain hok)
  tickets := Ch.of_chain (S := S0 c) (lk := tlk c) (tickets_chain hok)
  boxes := fun s hs => by
    have h := inb_bd hs
    rw [freshM_shard (inb c s) h.1 h.2]
    show part 0 0 32 = 0
    decide
  nlt := fun x hx => by have := List.mem_range'_1.1 hx; omega
  tlt := fun x hx => by have := List.mem_range'_1.1 hx; omega
  blt := fun s _ x hx => by cases hx
  nnd := List.nodup_range'
  tnd := List.nodup_range'
  bnd := fun _ _ => List.nodup_nil
  tb := fun _ _ _ _ h => by cases h
  bb := fun _ _ _ _ _ x hx => by cases hx
  key := fun _ _ x hx => by cases hx

theorem St.newR_knows (S : St) (b : Nat) (vs : List Value) {i : Nat} (hi : i < vs.length) : (S.newR b vs).knows (b, i) := by
  unfold St.knows St.newR regsOf
  rw [List.map_append, List.mem_append]
  refine .inl (List.mem_map.2 ⟨((b, i), vs[i]), List.mem_map.2 ⟨(vs[i], i), List.mem_zipIdx_iff_getElem?.2 ?_, rfl⟩, rfl⟩)
  simp [hi]
theorem St.setR_reads {S : St} {a : Nat × Nat} {v : Value} (h : S.knows a) : (S.setR a v).reads a v := by
  unfold St.knows at h
  obtain ⟨⟨b, u⟩, hm, rfl⟩ := List.mem_map.1 h
  unfold St.reads St.setR
  exact List.mem_map.2 ⟨(b, u), hm, if_pos rfl⟩
theorem Good.reads {E : G} {L : Lab} {S : St} {w : World} (h : Good E L S w) {b o : Nat} {v : Value} (hr : S.reads (b, o) v) : w.cell? ⟨b, o, none⟩ = some v := (h.rg b o v hr).1
def c16 : Cf := ⟨1, 1, 1, 2, 2, 0, 0, 0, 1, 1, 1, 0, 0⟩
theorem c16_ok : c16.Ok := by constructor <;> decide
def spR := onR (fun n g e => decide (n = 0 ∧ g = 1 ∧ e = 0)) (fun _ _ _ => .bool true)
def sp16 (b : Nat) : St := (S0 c16).newR b [.bool false]
theorem sp16_runs (b : Nat) : ∃ m S', m ≤ 80 ∧ RunsF c16 (prApp c16 spR) (startK c16 0 5 0 0 (.user (b, 0))) (sp16 b) m S' ∧ S'.reads (b, 0) (.bool true) := by
  have h1 : freshM c16 (c16.nodesAt + 4 * 0) = 0 := by decide
  have hs : Shop c16 (freshM c16) [0, 1] [0, 1] (fun _ => []) := shop_fresh c16_ok
  obtain ⟨d, m', ms, hi, hd, hd1, _⟩ := start_ok (R0 := spR) (k := .user (b, 0)) (c := c16) (wk := 0) (ticks := 5) (shard := 0) (user := 0) (S := sp16 b) (fn := [1]) (ft := [1]) (bx := fun _ => []) (s := 0) rfl (by decide) (by decide) rfl c16_ok
    (by show freshM c16 0 ≤ _; rw [freshM_zero c16_ok]; decide) (by show ¬ 1073741823 - ((freshM c16 0 : Nat) : Int) < 5; rw [freshM_zero c16_ok]; decide) (x := 0) (t := 0) hs (gn := 0) (by show part (freshM c16 (c16.nodesAt + 4 * 0)) 32 32 = 0; rw [h1]; decide) (by decide)
  have hk : (((sp16 b).w d m').note (startPoint 0 (0 : Nat) (((0 : Nat) : Int) + 1) (((sp16 b).m 0 : Int) + 5) 0)).knows (b, 0) := St.newR_knows (S0 c16) b [.bool false] (by decide)
  have hrun := hi 0
  rw [prApp_user, show spR = onR (fun n g e => decide (n = 0 ∧ g = 1 ∧ e = 0)) (fun _ _ _ => .bool true) from rfl, onR_he _ _ _ _ _ _ _ (by decide) hk, iterR_none] at hrun
  rw [Nat.zero_add] at hrun
  have hd' : d ≤ 17 := hd
  obtain ⟨m, hm, hr⟩ := runs_of_iter (prApp_mono c16 spR (onR_mono _ _)) d _ _ _ hrun ⟨by show 0 + d ≤ _; omega, by show (([] : List Ev) ++ [_]).length ≤ _; simp⟩
  exact ⟨m, _, by omega, hr, St.setR_reads hk⟩

set_option maxHeartbeats 1000000 in
theorem law16_sp1 {cf : Cf} {E : G} {t n : Nat} {L : Lab} {w : World} (b : Nat) :
    ConSim cf (prApp cf spR) E t isHe n L w (.func (.func 76) #[] #[.pointer (some ⟨b, 0, none⟩)]) (.ret (.user (b, 0))) := by
  refine ⟨_, _, rfl, enters_of Tryz.func76 (by kernel_rfl) rfl, ?_⟩
  intro a L' w' S ha hx hg hbd
  cases a with
  | he nn gg ee =>
    rw [app_ret, prApp_user] at hbd ⊢
    by_cases hp : decide (nn = 0 ∧ gg = 1 ∧ ee = 0) = true ∧ S.knows (b, 0)
    · have e : spR (b, 0) (.he nn gg ee) S = (S.setR (b, 0) (.bool true), none) := onR_he _ _ _ _ _ _ _ hp.1 hp.2
      rw [e]
      obtain ⟨rfl, rfl, rfl⟩ := of_decide_eq_true hp.1
      have hb : Below w'.heap.size w' (w'.alloc (.cells #[.int .i64 0, .int .i64 1] 46)) := (Below.refl _ _).alloc (Nat.le_refl _) _
      have hg1 := hg.below hb
      obtain ⟨⟨u1, c1⟩, f1, l1⟩ := hg1.knows hp.2
      have h0 : (w'.alloc (.cells #[.int .i64 0, .int .i64 1] 46)).cell? ⟨w'.heap.size, 0, none⟩ = some (.int .i64 0) := by go_simp
      have h1 : (w'.alloc (.cells #[.int .i64 0, .int .i64 1] 46)).cell? ⟨w'.heap.size, 1, none⟩ = some (.int .i64 1) := by go_simp
      have heq : ∀ w : World, Sem.run Tryz.prog (binOp BinOp.eql 46 (.agg #[.int .i64 0, .int .i64 1]) (.agg #[.int .i64 0, .int .i64 1])) w = .ok (.bool true) w := fun w => by kernel_rfl
      have HG := Go.Lib.hid (hg1.setR hp.2 (.bool true))
      have HD := Go.Lib.hid ((below_did hb t L').trans ((hg1.shr_setR hp.2 (.bool true)).did t))
      show Calls _ _ #[_, _, _] _ _
      clear hg1 hg hbd hx hp e ha
      go_enter Tryz.func76, Tryz.ntmps76
      go_wp2
      go_ret
      refine ⟨_, L', rfl, HD.out, HG.out, ?_⟩
      cases n with
      | zero => trivial
      | succ n => rfl
    · have e : spR (b, 0) (.he nn gg ee) S = (S.burst, none) := if_neg hp
      rw [e] at hbd
      exact (St.burst_no hbd).elim
  | _ => exact absurd ha (by simp [isHe])
set_option maxHeartbeats 4000000 in
theorem law16_speaks (w : World) : Calls Tryz.prog 11 #[] w fun e w' => e = .returned (.bool true) ∧ Below w.heap.size w w' := by
  have HN : Hid (∀ w, Calls Tryz.prog 75 #[.agg #[.int .i64 1, .int .i64 1, .int .i64 1, .int .i64 2, .int .i64 2, .int .i64 0, .int .i64 0, .int .i64 0, .int .i64 1, .int .i64 1, .int .i64 1, .int .i64 0, .int .i64 0]] w fun e w' => ∃ E L, e = .returned (.tuple #[.pointer (some ⟨E.k, 0, none⟩), .int .i64 0]) ∧ Born c16 w E L w') := fun w => core_new c16 c16_ok w
  have hmono := prApp_mono c16 spR (onR_mono _ _)
  go_enter Tryz.func11, Tryz.ntmps11
  go_wp2_with fail
  refine (HN.out _).mono ?_
  rintro e w1 ⟨E, L, rfl, hborn⟩
  obtain ⟨hcf, hg, hbl, hold, hnr, hek⟩ := hborn
  obtain ⟨k, p, a, cc, cf⟩ := E
  obtain rfl : cf = c16 := hcf
  obtain ⟨hg1, hs1⟩ := hg.newR [.bool false] 4
  have HB1 := Go.Lib.hid hbl
  have HOLD := Go.Lib.hid hold
  have HS1 := Go.Lib.hid hs1
  obtain ⟨m, S', hm, hr, hrd⟩ := sp16_runs w1.heap.size
  have HR := Go.Lib.hid hr
  have HRD := Go.Lib.hid hrd
  have HST := Go.Lib.hid (start_any (t := 0) (m := 90) (wk := 0) (ticks := 5) (shard := 0) (user := 0) hmono hg1 (law16_sp1 w1.heap.size) (by decide) (by decide))
  clear hg hbl hold hnr hek HN hg1 hs1 hr hrd
  go_wp2_with fail
  generalize w1.alloc (.cells #[.bool false] 4) = W1 at *
  generalize (fun b => if b = w1.heap.size then 5 else L b) = L1 at *
  generalize w1.heap.size = ob at *
  refine HST.out.mono ?_
  rintro e w2 ⟨v, L2, rfl, hd2, hg2, hc2⟩
  have HD2 := Go.Lib.hid hd2
  have HG2 := Go.Lib.hid hg2
  have HC2 := Go.Lib.hid hc2
  obtain ⟨f, cap, rfl, _, _⟩ := hc2
  clear hd2 hg2 HST
  have HT := Go.Lib.hid (HG2.out.task 0 (.func (.func f) #[] cap) 142)
  go_wp2_with fail
  refine (step_New f #[] cap w2).mono ?_
  rintro e w3 ⟨rfl, rfl⟩
  generalize (fun b => if b = w2.heap.size then 5000 + 0 else L2 b) = L3 at *
  have hd3 : DidP (TP 0) L2 w2 L3 (w2.alloc (.cells #[.func (.func f) #[] cap, .int .i64 0] 142)) := ⟨rfl, rfl, rfl, by simp, fun b hb _ => Below.heap_alloc _ _ _ hb, HT.out.2.2.lab⟩
  have HK3 := Go.Lib.hid (CodeSim.ext c16 (prApp c16 spR) _ 0 HC2.out HT.out.2.2)
  have HD3 := Go.Lib.hid hd3
  clear hd3 HC2
  generalize (w2.alloc (.cells #[.func (.func f) #[] cap, .int .i64 0] 142)) = W3 at *
  generalize w2.heap.size = tb at *
  go_wp2_with fail
  have HF : Calls Tryz.prog 20 #[.pointer (some ⟨tb, 0, none⟩), .int .i64 80] W3 _ := task_finish (most := 80) HT.out.1 HT.out.2.1 (by decide) hm (by decide) (by decide) (CodeSim.le c16 (prApp c16 spR) _ 0 HK3.out (by omega)) HR.out
  refine HF.mono ?_
  rintro e w4 ⟨v', L4, rfl, hg4, hd4, ht4⟩
  have c4 := hg4.reads HRD.out
  have HB4 := Go.Lib.hid ((((HS1.out.did 0).toP.trans HD2.out.toP).trans (HD3.out.trans hd4)).below_old HB1.out (Nat.le_refl _) HOLD.out)
  clear hg4 hd4 ht4 HF
  go_wp2
  go_ret
  exact ⟨rfl, HB4.out⟩
end Go.Proofs.YtgemjjpmoejgdaaGreat
/- What does a deed of a Start, a Cancel, a Rearm or a Migrate, and goes on with an event. -/
namespace Go.Proofs.YtgemjjpmoejgdaaGreat
open Go.RowKit
set_option maxRecDepth 100000
set_option linter.unusedVariables false

section
variable {ρ : Type} (V : ρ → Ev → St → St × Option (K (PR ρ)))
end
/-- A deed's values. -/
structure DeedR where
  op : Int
  hn : Int
  hg : Int
  time : Int
  arg : Int
  user : Int
def DeedR.cells (d : DeedR) : List Value := [.int .i64 d.op, .int .i64 d.hn, .int .i64 d.hg, .int .i64 d.time, .int .i64 d.arg, .int .i64 d.user]
section
variable {ρ : Type}
end
section
variable {ρ : Type} {V : ρ → Ev → St → St × Option (K (PR ρ))} {E : G} {t : Nat}
end
end Go.Proofs.YtgemjjpmoejgdaaGreat
/- A caller's own slice grows. -/
namespace Go.Proofs.YtgemjjpmoejgdaaGreat
open Go.RowKit
set_option maxRecDepth 100000
set_option linter.unusedVariables false

end Go.Proofs.YtgemjjpmoejgdaaGreat
/- Deeds in memory; deeds as Starts, Cancels and Rearms. -/
namespace Go.Proofs.YtgemjjpmoejgdaaGreat
open Go.RowKit
set_option maxRecDepth 100000
set_option linter.unusedVariables false

theorem Env.toDidP {t : Nat} {L L' : Lab} {w w' : World} {env : List (Nat × List Value)} (h : Env L w env) (hx : DidP (TP t) L w L' w') : Env L' w' env := fun p hp =>
  ⟨(hx.lab _ (h p hp).2.1).trans (h p hp).1, Nat.lt_of_lt_of_le (h p hp).2.1 hx.size, fun i v hi => hx.cell ((h p hp).2.2 i v hi) (by rw [(h p hp).1]; unfold TP; omega)⟩
/-- A deed's cells at an address. -/
structure DeedAt (w : World) (a : Addr) (d : DeedR) : Prop where
  c0 : w.cell? a = some (.int .i64 d.op)
  c1 : w.cell? ⟨a.block, a.off + 1, none⟩ = some (.int .i64 d.hn)
  c2 : w.cell? ⟨a.block, a.off + 2, none⟩ = some (.int .i64 d.hg)
  c3 : w.cell? ⟨a.block, a.off + 3, none⟩ = some (.int .i64 d.time)
  c4 : w.cell? ⟨a.block, a.off + 4, none⟩ = some (.int .i64 d.arg)
  c5 : w.cell? ⟨a.block, a.off + 5, none⟩ = some (.int .i64 d.user)
/-- A slice of deeds. -/
def DeedsRow (w : World) (v : Value) (ds : List DeedR) : Prop := ∃ p c, v = .slice p ds.length c ∧ ∀ i d, ds[i]? = some d → ∃ a, p = some a ∧ DeedAt w (a.add (i * 6)) d
/-- A slice of slices of deeds. -/
def DeedsTab (w : World) (base : Nat) (v : Value) (dss : List (List DeedR)) : Prop := ∃ p c, v = .slice p dss.length c ∧ ∀ i ds, dss[i]? = some ds → ∃ a u, p = some a ∧ w.cell? (a.add i) = some u ∧ DeedsRow w u ds ∧ ∀ g, u.ownBlock = some g → base ≤ g
theorem add_block (a : Addr) (n : Nat) : (a.add n).block = a.block := by unfold Addr.add; split <;> rfl
theorem DeedAt.lt {w : World} {a : Addr} {d : DeedR} (h : DeedAt w a d) : a.block < w.heap.size := cell_lt h.c0
theorem DeedAt.mono {w w' : World} {a : Addr} {d : DeedR} (h : DeedAt w a d) (hb : w'.heap[a.block]? = w.heap[a.block]?) : DeedAt w' a d :=
  ⟨(World.cell?_of_block hb).trans h.c0, (World.cell?_of_block (a := ⟨a.block, a.off + 1, none⟩) hb).trans h.c1, (World.cell?_of_block (a := ⟨a.block, a.off + 2, none⟩) hb).trans h.c2, (World.cell?_of_block (a := ⟨a.block, a.off + 3, none⟩) hb).trans h.c3, (World.cell?_of_block (a := ⟨a.block, a.off + 4, none⟩) hb).trans h.c4, (World.cell?_of_block (a := ⟨a.block, a.off + 5, none⟩) hb).trans h.c5⟩
theorem DeedsRow.mono {w w' : World} {v : Value} {ds : List DeedR} (h : DeedsRow w v ds) (hb : ∀ g, v.ownBlock = some g → g < w.heap.size → w'.heap[g]? = w.heap[g]?) : DeedsRow w' v ds := by
  obtain ⟨p, c, rfl, h1⟩ := h
  refine ⟨p, c, rfl, fun i d hi => ?_⟩
  obtain ⟨a, rfl, h2⟩ := h1 i d hi
  refine ⟨a, rfl, h2.mono ?_⟩
  have hlt := h2.lt
  rw [add_block] at hlt ⊢
  exact hb a.block rfl hlt
theorem DeedsRow.below {w w' : World} {v : Value} {ds : List DeedR} (h : DeedsRow w v ds) (hb : Below w.heap.size w w') : DeedsRow w' v ds := h.mono fun g _ hlt => hb.block g hlt
theorem DeedsTab.below {w w' : World} {base : Nat} {v : Value} {dss : List (List DeedR)} (h : DeedsTab w base v dss) (hb : Below w.heap.size w w') : DeedsTab w' base v dss := by
  obtain ⟨p, c, rfl, h1⟩ := h
  refine ⟨p, c, rfl, fun i ds hi => ?_⟩
  obtain ⟨a, u, rfl, h2, h3, h4⟩ := h1 i ds hi
  exact ⟨a, u, rfl, below_cell hb h2, h3.below hb, h4⟩
/-- A slice of deeds that is nobody's. -/
def DeedsRowL (L : Lab) (w : World) (v : Value) (ds : List DeedR) : Prop := ∃ p c, v = .slice p ds.length c ∧ ∀ i d, ds[i]? = some d → ∃ a, p = some a ∧ L a.block = 0 ∧ DeedAt w (a.add (i * 6)) d
theorem DeedsRow.lab {L : Lab} {w : World} {v : Value} {ds : List DeedR} (h : DeedsRow w v ds) (hl : ∀ g, v.ownBlock = some g → L g = 0) : DeedsRowL L w v ds := by
  obtain ⟨p, c, rfl, h1⟩ := h
  refine ⟨p, c, rfl, fun i d hi => ?_⟩
  obtain ⟨a, rfl, h2⟩ := h1 i d hi
  exact ⟨a, rfl, hl a.block rfl, h2⟩
theorem DeedsRowL.below {L : Lab} {w w' : World} {v : Value} {ds : List DeedR} (h : DeedsRowL L w v ds) (hb : Below w.heap.size w w') : DeedsRowL L w' v ds := by
  obtain ⟨p, c, rfl, h1⟩ := h
  refine ⟨p, c, rfl, fun i d hi => ?_⟩
  obtain ⟨a, rfl, h0, h2⟩ := h1 i d hi
  exact ⟨a, rfl, h0, h2.mono (hb.block _ h2.lt)⟩
end Go.Proofs.YtgemjjpmoejgdaaGreat
