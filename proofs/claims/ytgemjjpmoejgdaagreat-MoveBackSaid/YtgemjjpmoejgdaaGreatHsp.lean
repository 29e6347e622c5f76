/- A Start, as code. -/
import Derived.Test.YtgemjjpmoejgdaaGreatHso
namespace Go.Proofs.YtgemjjpmoejgdaaGreat
open Go.RowKit
set_option maxRecDepth 100000
set_option linter.unusedVariables false

section
variable {ρ : Type} {R0 : ρ → Arg → St → St × Option (K (PR ρ))} {E : G} {t : Nat}
set_option maxHeartbeats 4000000 in
theorem start_i1 (hR : RMono (prApp E.cf R0)) {m : Nat} {wk ticks shard user : Int} {vk : Value} {k : PR ρ} {L : Lab} {w : World} {S : St} (hg : Good E L S w) (hk : ConSim E.cf (prApp E.cf R0) E t isHe m L w vk (.ret k)) (hw : 0 ≤ wk) (htu : ticks < 9223372036854775808) (h1 : ticks < 0) :
    Calls Tryz.prog 18 #[.pointer (some ⟨E.k, 0, none⟩), .int .i64 wk, .int .i64 ticks, .int .i64 shard, .int .i64 user, vk] w (Post E.cf (prApp E.cf R0) E t m L w (S, some (.idle (.ret (.st0 wk k))))) := by
  have henv := Env.nil L w
  have hd1 : decide (ticks < 0) = true := by simpa using h1
  have HD := Go.Lib.hid (Did.refl t L w)
  have HG := Go.Lib.hid hg
  have HE := Go.Lib.hid henv
  obtain ⟨ghk, chk, hvhk, hgfhk, _⟩ := id hk
  subst hvhk
  have henhk : ∀ (args : Array Value) (w : World), (callFunc ghk args).run Tryz.prog w = .ok (.enter ghk args) w := hgfhk
  have Hhk := Go.Lib.hid hk
  clear hg henv hk hgfhk
  have hb0 : Below w.heap.size w (((w.alloc (.cells #[.int .i64 ticks] 3)).alloc (.cells #[.pointer (some ⟨E.k, 0, none⟩), .int .i64 wk, .int .i64 ticks, .int .i64 shard, .int .i64 user, .func (.func ghk) #[] chk] 145)).alloc (.cells #[.pointer (some ⟨w.heap.size + 1, 0, none⟩)] 143)) := ((((Below.refl _ _).alloc (Nat.le_refl _) _).alloc (by first | (simp; done) | (simp; omega)) _).alloc (by first | (simp; done) | (simp; omega)) _)
  have HE0 : Hid (Env L (((w.alloc (.cells #[.int .i64 ticks] 3)).alloc (.cells #[.pointer (some ⟨E.k, 0, none⟩), .int .i64 wk, .int .i64 ticks, .int .i64 shard, .int .i64 user, .func (.func ghk) #[] chk] 145)).alloc (.cells #[.pointer (some ⟨w.heap.size + 1, 0, none⟩)] 143)) [(w.heap.size + 1 + 1, [.pointer (some ⟨w.heap.size + 1, 0, none⟩)]), (w.heap.size + 1, [.pointer (some ⟨E.k, 0, none⟩), .int .i64 wk, .int .i64 ticks, .int .i64 shard, .int .i64 user, .func (.func ghk) #[] chk]), (w.heap.size, [.int .i64 ticks])]) := Go.Lib.hid (Env.alloc_at (Env.alloc_at (Env.alloc_at HE.out (fun b hb => HG.out.new b (by first | exact hb | (simp at hb; omega))) [.int .i64 ticks] 3 (b := w.heap.size) (by first | rfl | (simp; done) | (simp; omega))) (fun b hb => HG.out.new b (by first | exact hb | (simp at hb; omega))) [.pointer (some ⟨E.k, 0, none⟩), .int .i64 wk, .int .i64 ticks, .int .i64 shard, .int .i64 user, .func (.func ghk) #[] chk] 145 (b := w.heap.size + 1) (by first | rfl | (simp; done) | (simp; omega))) (fun b hb => HG.out.new b (by first | exact hb | (simp at hb; omega))) [.pointer (some ⟨w.heap.size + 1, 0, none⟩)] 143 (b := w.heap.size + 1 + 1) (by first | rfl | (simp; done) | (simp; omega)))
  replace HG := Go.Lib.hid (HG.out.below hb0)
  replace HE := Go.Lib.hid (HE0.out)
  replace Hhk := Go.Lib.hid (ConSim.ext E.cf (prApp E.cf R0) E t Hhk.out (below_ext hb0 t L))
  replace HD := Go.Lib.hid (HD.out.trans (below_did hb0 t L))
  clear hb0 HE0
  have q0_0 : (((w.alloc (.cells #[.int .i64 ticks] 3)).alloc (.cells #[.pointer (some ⟨E.k, 0, none⟩), .int .i64 wk, .int .i64 ticks, .int .i64 shard, .int .i64 user, .func (.func ghk) #[] chk] 145)).alloc (.cells #[.pointer (some ⟨w.heap.size + 1, 0, none⟩)] 143)).cell? ⟨w.heap.size + 1 + 1, 0, none⟩ = some (.pointer (some ⟨w.heap.size + 1, 0, none⟩)) := HE.out.cell 0 0 rfl rfl
  have q1_0 : (((w.alloc (.cells #[.int .i64 ticks] 3)).alloc (.cells #[.pointer (some ⟨E.k, 0, none⟩), .int .i64 wk, .int .i64 ticks, .int .i64 shard, .int .i64 user, .func (.func ghk) #[] chk] 145)).alloc (.cells #[.pointer (some ⟨w.heap.size + 1, 0, none⟩)] 143)).cell? ⟨w.heap.size + 1, 0, none⟩ = some (.pointer (some ⟨E.k, 0, none⟩)) := HE.out.cell 1 0 rfl rfl
  have q1_1 : (((w.alloc (.cells #[.int .i64 ticks] 3)).alloc (.cells #[.pointer (some ⟨E.k, 0, none⟩), .int .i64 wk, .int .i64 ticks, .int .i64 shard, .int .i64 user, .func (.func ghk) #[] chk] 145)).alloc (.cells #[.pointer (some ⟨w.heap.size + 1, 0, none⟩)] 143)).cell? ⟨w.heap.size + 1, 1, none⟩ = some (.int .i64 wk) := HE.out.cell 1 1 rfl rfl
  have q1_2 : (((w.alloc (.cells #[.int .i64 ticks] 3)).alloc (.cells #[.pointer (some ⟨E.k, 0, none⟩), .int .i64 wk, .int .i64 ticks, .int .i64 shard, .int .i64 user, .func (.func ghk) #[] chk] 145)).alloc (.cells #[.pointer (some ⟨w.heap.size + 1, 0, none⟩)] 143)).cell? ⟨w.heap.size + 1, 2, none⟩ = some (.int .i64 ticks) := HE.out.cell 1 2 rfl rfl
  have q1_3 : (((w.alloc (.cells #[.int .i64 ticks] 3)).alloc (.cells #[.pointer (some ⟨E.k, 0, none⟩), .int .i64 wk, .int .i64 ticks, .int .i64 shard, .int .i64 user, .func (.func ghk) #[] chk] 145)).alloc (.cells #[.pointer (some ⟨w.heap.size + 1, 0, none⟩)] 143)).cell? ⟨w.heap.size + 1, 3, none⟩ = some (.int .i64 shard) := HE.out.cell 1 3 rfl rfl
  have q1_4 : (((w.alloc (.cells #[.int .i64 ticks] 3)).alloc (.cells #[.pointer (some ⟨E.k, 0, none⟩), .int .i64 wk, .int .i64 ticks, .int .i64 shard, .int .i64 user, .func (.func ghk) #[] chk] 145)).alloc (.cells #[.pointer (some ⟨w.heap.size + 1, 0, none⟩)] 143)).cell? ⟨w.heap.size + 1, 4, none⟩ = some (.int .i64 user) := HE.out.cell 1 4 rfl rfl
  have q1_5 : (((w.alloc (.cells #[.int .i64 ticks] 3)).alloc (.cells #[.pointer (some ⟨E.k, 0, none⟩), .int .i64 wk, .int .i64 ticks, .int .i64 shard, .int .i64 user, .func (.func ghk) #[] chk] 145)).alloc (.cells #[.pointer (some ⟨w.heap.size + 1, 0, none⟩)] 143)).cell? ⟨w.heap.size + 1, 5, none⟩ = some (.func (.func ghk) #[] chk) := HE.out.cell 1 5 rfl rfl
  have q2_0 : (((w.alloc (.cells #[.int .i64 ticks] 3)).alloc (.cells #[.pointer (some ⟨E.k, 0, none⟩), .int .i64 wk, .int .i64 ticks, .int .i64 shard, .int .i64 user, .func (.func ghk) #[] chk] 145)).alloc (.cells #[.pointer (some ⟨w.heap.size + 1, 0, none⟩)] 143)).cell? ⟨w.heap.size, 0, none⟩ = some (.int .i64 ticks) := HE.out.cell 2 0 rfl rfl
  go_enter Tryz.func18, Tryz.ntmps18
  go_wp2_with fail
  generalize (((w.alloc (.cells #[.int .i64 ticks] 3)).alloc (.cells #[.pointer (some ⟨E.k, 0, none⟩), .int .i64 wk, .int .i64 ticks, .int .i64 shard, .int .i64 user, .func (.func ghk) #[] chk] 145)).alloc (.cells #[.pointer (some ⟨w.heap.size + 1, 0, none⟩)] 143)) = w0 at *
  refine (idle_at HG.out (st0_con (bj := w.heap.size + 1 + 1) hR (HE.out.sub (env' := [(w.heap.size + 1 + 1, [.pointer (some ⟨w.heap.size + 1, 0, none⟩)]), (w.heap.size + 1, [.pointer (some ⟨E.k, 0, none⟩), .int .i64 wk, .int .i64 ticks, .int .i64 shard, .int .i64 user, .func (.func ghk) #[] chk])]) (by simp)) Hhk.out hw)).mono ?_
  rintro e w9 ⟨v2, L9, rfl, hd2, hg2, hc2⟩
  go_wp2
  go_ret
  exact ⟨v2, L9, rfl, HD.out.trans hd2, hg2, hc2⟩
set_option maxHeartbeats 4000000 in
theorem start_i2 (hR : RMono (prApp E.cf R0)) {m : Nat} {wk ticks shard user : Int} {vk : Value} {k : PR ρ} {L : Lab} {w : World} {S : St} (hg : Good E L S w) (hk : ConSim E.cf (prApp E.cf R0) E t isHe m L w vk (.ret k)) (hw : 0 ≤ wk) (htu : ticks < 9223372036854775808) (h1 : ¬ ticks < 0) (h2 : user < 0) :
    Calls Tryz.prog 18 #[.pointer (some ⟨E.k, 0, none⟩), .int .i64 wk, .int .i64 ticks, .int .i64 shard, .int .i64 user, vk] w (Post E.cf (prApp E.cf R0) E t m L w (S, some (.idle (.ret (.st0 wk k))))) := by
  have henv := Env.nil L w
  have hd1 : decide (ticks < 0) = false := by simpa using h1
  have hd2 : decide (user < 0) = true := by simpa using h2
  have HD := Go.Lib.hid (Did.refl t L w)
  have HG := Go.Lib.hid hg
  have HE := Go.Lib.hid henv
  obtain ⟨ghk, chk, hvhk, hgfhk, _⟩ := id hk
  subst hvhk
  have henhk : ∀ (args : Array Value) (w : World), (callFunc ghk args).run Tryz.prog w = .ok (.enter ghk args) w := hgfhk
  have Hhk := Go.Lib.hid hk
  clear hg henv hk hgfhk
  have hb0 : Below w.heap.size w (((w.alloc (.cells #[.int .i64 ticks] 3)).alloc (.cells #[.pointer (some ⟨E.k, 0, none⟩), .int .i64 wk, .int .i64 ticks, .int .i64 shard, .int .i64 user, .func (.func ghk) #[] chk] 145)).alloc (.cells #[.pointer (some ⟨w.heap.size + 1, 0, none⟩)] 143)) := ((((Below.refl _ _).alloc (Nat.le_refl _) _).alloc (by first | (simp; done) | (simp; omega)) _).alloc (by first | (simp; done) | (simp; omega)) _)
  have HE0 : Hid (Env L (((w.alloc (.cells #[.int .i64 ticks] 3)).alloc (.cells #[.pointer (some ⟨E.k, 0, none⟩), .int .i64 wk, .int .i64 ticks, .int .i64 shard, .int .i64 user, .func (.func ghk) #[] chk] 145)).alloc (.cells #[.pointer (some ⟨w.heap.size + 1, 0, none⟩)] 143)) [(w.heap.size + 1 + 1, [.pointer (some ⟨w.heap.size + 1, 0, none⟩)]), (w.heap.size + 1, [.pointer (some ⟨E.k, 0, none⟩), .int .i64 wk, .int .i64 ticks, .int .i64 shard, .int .i64 user, .func (.func ghk) #[] chk]), (w.heap.size, [.int .i64 ticks])]) := Go.Lib.hid (Env.alloc_at (Env.alloc_at (Env.alloc_at HE.out (fun b hb => HG.out.new b (by first | exact hb | (simp at hb; omega))) [.int .i64 ticks] 3 (b := w.heap.size) (by first | rfl | (simp; done) | (simp; omega))) (fun b hb => HG.out.new b (by first | exact hb | (simp at hb; omega))) [.pointer (some ⟨E.k, 0, none⟩), .int .i64 wk, .int .i64 ticks, .int .i64 shard, .int .i64 user, .func (.func ghk) #[] chk] 145 (b := w.heap.size + 1) (by first | rfl | (simp; done) | (simp; omega))) (fun b hb => HG.out.new b (by first | exact hb | (simp at hb; omega))) [.pointer (some ⟨w.heap.size + 1, 0, none⟩)] 143 (b := w.heap.size + 1 + 1) (by first | rfl | (simp; done) | (simp; omega)))
  replace HG := Go.Lib.hid (HG.out.below hb0)
  replace HE := Go.Lib.hid (HE0.out)
  replace Hhk := Go.Lib.hid (ConSim.ext E.cf (prApp E.cf R0) E t Hhk.out (below_ext hb0 t L))
  replace HD := Go.Lib.hid (HD.out.trans (below_did hb0 t L))
  clear hb0 HE0
  have q0_0 : (((w.alloc (.cells #[.int .i64 ticks] 3)).alloc (.cells #[.pointer (some ⟨E.k, 0, none⟩), .int .i64 wk, .int .i64 ticks, .int .i64 shard, .int .i64 user, .func (.func ghk) #[] chk] 145)).alloc (.cells #[.pointer (some ⟨w.heap.size + 1, 0, none⟩)] 143)).cell? ⟨w.heap.size + 1 + 1, 0, none⟩ = some (.pointer (some ⟨w.heap.size + 1, 0, none⟩)) := HE.out.cell 0 0 rfl rfl
  have q1_0 : (((w.alloc (.cells #[.int .i64 ticks] 3)).alloc (.cells #[.pointer (some ⟨E.k, 0, none⟩), .int .i64 wk, .int .i64 ticks, .int .i64 shard, .int .i64 user, .func (.func ghk) #[] chk] 145)).alloc (.cells #[.pointer (some ⟨w.heap.size + 1, 0, none⟩)] 143)).cell? ⟨w.heap.size + 1, 0, none⟩ = some (.pointer (some ⟨E.k, 0, none⟩)) := HE.out.cell 1 0 rfl rfl
  have q1_1 : (((w.alloc (.cells #[.int .i64 ticks] 3)).alloc (.cells #[.pointer (some ⟨E.k, 0, none⟩), .int .i64 wk, .int .i64 ticks, .int .i64 shard, .int .i64 user, .func (.func ghk) #[] chk] 145)).alloc (.cells #[.pointer (some ⟨w.heap.size + 1, 0, none⟩)] 143)).cell? ⟨w.heap.size + 1, 1, none⟩ = some (.int .i64 wk) := HE.out.cell 1 1 rfl rfl
  have q1_2 : (((w.alloc (.cells #[.int .i64 ticks] 3)).alloc (.cells #[.pointer (some ⟨E.k, 0, none⟩), .int .i64 wk, .int .i64 ticks, .int .i64 shard, .int .i64 user, .func (.func ghk) #[] chk] 145)).alloc (.cells #[.pointer (some ⟨w.heap.size + 1, 0, none⟩)] 143)).cell? ⟨w.heap.size + 1, 2, none⟩ = some (.int .i64 ticks) := HE.out.cell 1 2 rfl rfl
  have q1_3 : (((w.alloc (.cells #[.int .i64 ticks] 3)).alloc (.cells #[.pointer (some ⟨E.k, 0, none⟩), .int .i64 wk, .int .i64 ticks, .int .i64 shard, .int .i64 user, .func (.func ghk) #[] chk] 145)).alloc (.cells #[.pointer (some ⟨w.heap.size + 1, 0, none⟩)] 143)).cell? ⟨w.heap.size + 1, 3, none⟩ = some (.int .i64 shard) := HE.out.cell 1 3 rfl rfl
  have q1_4 : (((w.alloc (.cells #[.int .i64 ticks] 3)).alloc (.cells #[.pointer (some ⟨E.k, 0, none⟩), .int .i64 wk, .int .i64 ticks, .int .i64 shard, .int .i64 user, .func (.func ghk) #[] chk] 145)).alloc (.cells #[.pointer (some ⟨w.heap.size + 1, 0, none⟩)] 143)).cell? ⟨w.heap.size + 1, 4, none⟩ = some (.int .i64 user) := HE.out.cell 1 4 rfl rfl
  have q1_5 : (((w.alloc (.cells #[.int .i64 ticks] 3)).alloc (.cells #[.pointer (some ⟨E.k, 0, none⟩), .int .i64 wk, .int .i64 ticks, .int .i64 shard, .int .i64 user, .func (.func ghk) #[] chk] 145)).alloc (.cells #[.pointer (some ⟨w.heap.size + 1, 0, none⟩)] 143)).cell? ⟨w.heap.size + 1, 5, none⟩ = some (.func (.func ghk) #[] chk) := HE.out.cell 1 5 rfl rfl
  have q2_0 : (((w.alloc (.cells #[.int .i64 ticks] 3)).alloc (.cells #[.pointer (some ⟨E.k, 0, none⟩), .int .i64 wk, .int .i64 ticks, .int .i64 shard, .int .i64 user, .func (.func ghk) #[] chk] 145)).alloc (.cells #[.pointer (some ⟨w.heap.size + 1, 0, none⟩)] 143)).cell? ⟨w.heap.size, 0, none⟩ = some (.int .i64 ticks) := HE.out.cell 2 0 rfl rfl
  go_enter Tryz.func18, Tryz.ntmps18
  go_wp2_with fail
  generalize (((w.alloc (.cells #[.int .i64 ticks] 3)).alloc (.cells #[.pointer (some ⟨E.k, 0, none⟩), .int .i64 wk, .int .i64 ticks, .int .i64 shard, .int .i64 user, .func (.func ghk) #[] chk] 145)).alloc (.cells #[.pointer (some ⟨w.heap.size + 1, 0, none⟩)] 143)) = w0 at *
  refine (idle_at HG.out (st0_con (bj := w.heap.size + 1 + 1) hR (HE.out.sub (env' := [(w.heap.size + 1 + 1, [.pointer (some ⟨w.heap.size + 1, 0, none⟩)]), (w.heap.size + 1, [.pointer (some ⟨E.k, 0, none⟩), .int .i64 wk, .int .i64 ticks, .int .i64 shard, .int .i64 user, .func (.func ghk) #[] chk])]) (by simp)) Hhk.out hw)).mono ?_
  rintro e w9 ⟨v2, L9, rfl, hd2, hg2, hc2⟩
  go_wp2
  go_ret
  exact ⟨v2, L9, rfl, HD.out.trans hd2, hg2, hc2⟩
set_option maxHeartbeats 4000000 in
theorem start_i3 (hR : RMono (prApp E.cf R0)) {m : Nat} {wk ticks shard user : Int} {vk : Value} {k : PR ρ} {L : Lab} {w : World} {S : St} (hg : Good E L S w) (hk : ConSim E.cf (prApp E.cf R0) E t isHe m L w vk (.ret k)) (hw : 0 ≤ wk) (htu : ticks < 9223372036854775808) (h1 : ¬ ticks < 0) (h2 : ¬ user < 0) (h3 : shard < 0) :
    Calls Tryz.prog 18 #[.pointer (some ⟨E.k, 0, none⟩), .int .i64 wk, .int .i64 ticks, .int .i64 shard, .int .i64 user, vk] w (Post E.cf (prApp E.cf R0) E t m L w (S, some (.idle (.ret (.st0 wk k))))) := by
  have henv := Env.nil L w
  have hd1 : decide (ticks < 0) = false := by simpa using h1
  have hd2 : decide (user < 0) = false := by simpa using h2
  have hd3 : decide (shard < 0) = true := by simpa using h3
  have HD := Go.Lib.hid (Did.refl t L w)
  have HG := Go.Lib.hid hg
  have HE := Go.Lib.hid henv
  obtain ⟨ghk, chk, hvhk, hgfhk, _⟩ := id hk
  subst hvhk
  have henhk : ∀ (args : Array Value) (w : World), (callFunc ghk args).run Tryz.prog w = .ok (.enter ghk args) w := hgfhk
  have Hhk := Go.Lib.hid hk
  clear hg henv hk hgfhk
  have hb0 : Below w.heap.size w (((w.alloc (.cells #[.int .i64 ticks] 3)).alloc (.cells #[.pointer (some ⟨E.k, 0, none⟩), .int .i64 wk, .int .i64 ticks, .int .i64 shard, .int .i64 user, .func (.func ghk) #[] chk] 145)).alloc (.cells #[.pointer (some ⟨w.heap.size + 1, 0, none⟩)] 143)) := ((((Below.refl _ _).alloc (Nat.le_refl _) _).alloc (by first | (simp; done) | (simp; omega)) _).alloc (by first | (simp; done) | (simp; omega)) _)
  have HE0 : Hid (Env L (((w.alloc (.cells #[.int .i64 ticks] 3)).alloc (.cells #[.pointer (some ⟨E.k, 0, none⟩), .int .i64 wk, .int .i64 ticks, .int .i64 shard, .int .i64 user, .func (.func ghk) #[] chk] 145)).alloc (.cells #[.pointer (some ⟨w.heap.size + 1, 0, none⟩)] 143)) [(w.heap.size + 1 + 1, [.pointer (some ⟨w.heap.size + 1, 0, none⟩)]), (w.heap.size + 1, [.pointer (some ⟨E.k, 0, none⟩), .int .i64 wk, .int .i64 ticks, .int .i64 shard, .int .i64 user, .func (.func ghk) #[] chk]), (w.heap.size, [.int .i64 ticks])]) := Go.Lib.hid (Env.alloc_at (Env.alloc_at (Env.alloc_at HE.out (fun b hb => HG.out.new b (by first | exact hb | (simp at hb; omega))) [.int .i64 ticks] 3 (b := w.heap.size) (by first | rfl | (simp; done) | (simp; omega))) (fun b hb => HG.out.new b (by first | exact hb | (simp at hb; omega))) [.pointer (some ⟨E.k, 0, none⟩), .int .i64 wk, .int .i64 ticks, .int .i64 shard, .int .i64 user, .func (.func ghk) #[] chk] 145 (b := w.heap.size + 1) (by first | rfl | (simp; done) | (simp; omega))) (fun b hb => HG.out.new b (by first | exact hb | (simp at hb; omega))) [.pointer (some ⟨w.heap.size + 1, 0, none⟩)] 143 (b := w.heap.size + 1 + 1) (by first | rfl | (simp; done) | (simp; omega)))
  replace HG := Go.Lib.hid (HG.out.below hb0)
  replace HE := Go.Lib.hid (HE0.out)
  replace Hhk := Go.Lib.hid (ConSim.ext E.cf (prApp E.cf R0) E t Hhk.out (below_ext hb0 t L))
  replace HD := Go.Lib.hid (HD.out.trans (below_did hb0 t L))
  clear hb0 HE0
  have q0_0 : (((w.alloc (.cells #[.int .i64 ticks] 3)).alloc (.cells #[.pointer (some ⟨E.k, 0, none⟩), .int .i64 wk, .int .i64 ticks, .int .i64 shard, .int .i64 user, .func (.func ghk) #[] chk] 145)).alloc (.cells #[.pointer (some ⟨w.heap.size + 1, 0, none⟩)] 143)).cell? ⟨w.heap.size + 1 + 1, 0, none⟩ = some (.pointer (some ⟨w.heap.size + 1, 0, none⟩)) := HE.out.cell 0 0 rfl rfl
  have q1_0 : (((w.alloc (.cells #[.int .i64 ticks] 3)).alloc (.cells #[.pointer (some ⟨E.k, 0, none⟩), .int .i64 wk, .int .i64 ticks, .int .i64 shard, .int .i64 user, .func (.func ghk) #[] chk] 145)).alloc (.cells #[.pointer (some ⟨w.heap.size + 1, 0, none⟩)] 143)).cell? ⟨w.heap.size + 1, 0, none⟩ = some (.pointer (some ⟨E.k, 0, none⟩)) := HE.out.cell 1 0 rfl rfl
  have q1_1 : (((w.alloc (.cells #[.int .i64 ticks] 3)).alloc (.cells #[.pointer (some ⟨E.k, 0, none⟩), .int .i64 wk, .int .i64 ticks, .int .i64 shard, .int .i64 user, .func (.func ghk) #[] chk] 145)).alloc (.cells #[.pointer (some ⟨w.heap.size + 1, 0, none⟩)] 143)).cell? ⟨w.heap.size + 1, 1, none⟩ = some (.int .i64 wk) := HE.out.cell 1 1 rfl rfl
  have q1_2 : (((w.alloc (.cells #[.int .i64 ticks] 3)).alloc (.cells #[.pointer (some ⟨E.k, 0, none⟩), .int .i64 wk, .int .i64 ticks, .int .i64 shard, .int .i64 user, .func (.func ghk) #[] chk] 145)).alloc (.cells #[.pointer (some ⟨w.heap.size + 1, 0, none⟩)] 143)).cell? ⟨w.heap.size + 1, 2, none⟩ = some (.int .i64 ticks) := HE.out.cell 1 2 rfl rfl
  have q1_3 : (((w.alloc (.cells #[.int .i64 ticks] 3)).alloc (.cells #[.pointer (some ⟨E.k, 0, none⟩), .int .i64 wk, .int .i64 ticks, .int .i64 shard, .int .i64 user, .func (.func ghk) #[] chk] 145)).alloc (.cells #[.pointer (some ⟨w.heap.size + 1, 0, none⟩)] 143)).cell? ⟨w.heap.size + 1, 3, none⟩ = some (.int .i64 shard) := HE.out.cell 1 3 rfl rfl
  have q1_4 : (((w.alloc (.cells #[.int .i64 ticks] 3)).alloc (.cells #[.pointer (some ⟨E.k, 0, none⟩), .int .i64 wk, .int .i64 ticks, .int .i64 shard, .int .i64 user, .func (.func ghk) #[] chk] 145)).alloc (.cells #[.pointer (some ⟨w.heap.size + 1, 0, none⟩)] 143)).cell? ⟨w.heap.size + 1, 4, none⟩ = some (.int .i64 user) := HE.out.cell 1 4 rfl rfl
  have q1_5 : (((w.alloc (.cells #[.int .i64 ticks] 3)).alloc (.cells #[.pointer (some ⟨E.k, 0, none⟩), .int .i64 wk, .int .i64 ticks, .int .i64 shard, .int .i64 user, .func (.func ghk) #[] chk] 145)).alloc (.cells #[.pointer (some ⟨w.heap.size + 1, 0, none⟩)] 143)).cell? ⟨w.heap.size + 1, 5, none⟩ = some (.func (.func ghk) #[] chk) := HE.out.cell 1 5 rfl rfl
  have q2_0 : (((w.alloc (.cells #[.int .i64 ticks] 3)).alloc (.cells #[.pointer (some ⟨E.k, 0, none⟩), .int .i64 wk, .int .i64 ticks, .int .i64 shard, .int .i64 user, .func (.func ghk) #[] chk] 145)).alloc (.cells #[.pointer (some ⟨w.heap.size + 1, 0, none⟩)] 143)).cell? ⟨w.heap.size, 0, none⟩ = some (.int .i64 ticks) := HE.out.cell 2 0 rfl rfl
  go_enter Tryz.func18, Tryz.ntmps18
  go_wp2_with fail
  generalize (((w.alloc (.cells #[.int .i64 ticks] 3)).alloc (.cells #[.pointer (some ⟨E.k, 0, none⟩), .int .i64 wk, .int .i64 ticks, .int .i64 shard, .int .i64 user, .func (.func ghk) #[] chk] 145)).alloc (.cells #[.pointer (some ⟨w.heap.size + 1, 0, none⟩)] 143)) = w0 at *
  refine (idle_at HG.out (st0_con (bj := w.heap.size + 1 + 1) hR (HE.out.sub (env' := [(w.heap.size + 1 + 1, [.pointer (some ⟨w.heap.size + 1, 0, none⟩)]), (w.heap.size + 1, [.pointer (some ⟨E.k, 0, none⟩), .int .i64 wk, .int .i64 ticks, .int .i64 shard, .int .i64 user, .func (.func ghk) #[] chk])]) (by simp)) Hhk.out hw)).mono ?_
  rintro e w9 ⟨v2, L9, rfl, hd2, hg2, hc2⟩
  go_wp2
  go_ret
  exact ⟨v2, L9, rfl, HD.out.trans hd2, hg2, hc2⟩
set_option maxHeartbeats 4000000 in
theorem start_i4 (hR : RMono (prApp E.cf R0)) {m : Nat} {wk ticks shard user : Int} {vk : Value} {k : PR ρ} {L : Lab} {w : World} {S : St} (hg : Good E L S w) (hk : ConSim E.cf (prApp E.cf R0) E t isHe m L w vk (.ret k)) (hw : 0 ≤ wk) (htu : ticks < 9223372036854775808) (h1 : ¬ ticks < 0) (h2 : ¬ user < 0) (h3 : ¬ shard < 0) (h4 : (E.cf.workers : Int) ≤ shard) :
    Calls Tryz.prog 18 #[.pointer (some ⟨E.k, 0, none⟩), .int .i64 wk, .int .i64 ticks, .int .i64 shard, .int .i64 user, vk] w (Post E.cf (prApp E.cf R0) E t m L w (S, some (.idle (.ret (.st0 wk k))))) := by
  have henv := Env.nil L w
  have hd1 : decide (ticks < 0) = false := by simpa using h1
  have hd2 : decide (user < 0) = false := by simpa using h2
  have hd3 : decide (shard < 0) = false := by simpa using h3
  have hd4 : decide ((E.cf.workers : Int) ≤ shard) = true := by simpa using h4
  have HD := Go.Lib.hid (Did.refl t L w)
  have HG := Go.Lib.hid hg
  have HE := Go.Lib.hid henv
  obtain ⟨ghk, chk, hvhk, hgfhk, _⟩ := id hk
  subst hvhk
  have henhk : ∀ (args : Array Value) (w : World), (callFunc ghk args).run Tryz.prog w = .ok (.enter ghk args) w := hgfhk
  have Hhk := Go.Lib.hid hk
  clear hg henv hk hgfhk
  have hfld : ∀ w, (Instr.field 126 (.agg E.cf.vals) 0).run Tryz.prog w = .ok (.int .i64 E.cf.workers) w := fun _ => by kernel_rfl
  have hb0 : Below w.heap.size w (((w.alloc (.cells #[.int .i64 ticks] 3)).alloc (.cells #[.pointer (some ⟨E.k, 0, none⟩), .int .i64 wk, .int .i64 ticks, .int .i64 shard, .int .i64 user, .func (.func ghk) #[] chk] 145)).alloc (.cells #[.pointer (some ⟨w.heap.size + 1, 0, none⟩)] 143)) := ((((Below.refl _ _).alloc (Nat.le_refl _) _).alloc (by first | (simp; done) | (simp; omega)) _).alloc (by first | (simp; done) | (simp; omega)) _)
  have HE0 : Hid (Env L (((w.alloc (.cells #[.int .i64 ticks] 3)).alloc (.cells #[.pointer (some ⟨E.k, 0, none⟩), .int .i64 wk, .int .i64 ticks, .int .i64 shard, .int .i64 user, .func (.func ghk) #[] chk] 145)).alloc (.cells #[.pointer (some ⟨w.heap.size + 1, 0, none⟩)] 143)) [(w.heap.size + 1 + 1, [.pointer (some ⟨w.heap.size + 1, 0, none⟩)]), (w.heap.size + 1, [.pointer (some ⟨E.k, 0, none⟩), .int .i64 wk, .int .i64 ticks, .int .i64 shard, .int .i64 user, .func (.func ghk) #[] chk]), (w.heap.size, [.int .i64 ticks])]) := Go.Lib.hid (Env.alloc_at (Env.alloc_at (Env.alloc_at HE.out (fun b hb => HG.out.new b (by first | exact hb | (simp at hb; omega))) [.int .i64 ticks] 3 (b := w.heap.size) (by first | rfl | (simp; done) | (simp; omega))) (fun b hb => HG.out.new b (by first | exact hb | (simp at hb; omega))) [.pointer (some ⟨E.k, 0, none⟩), .int .i64 wk, .int .i64 ticks, .int .i64 shard, .int .i64 user, .func (.func ghk) #[] chk] 145 (b := w.heap.size + 1) (by first | rfl | (simp; done) | (simp; omega))) (fun b hb => HG.out.new b (by first | exact hb | (simp at hb; omega))) [.pointer (some ⟨w.heap.size + 1, 0, none⟩)] 143 (b := w.heap.size + 1 + 1) (by first | rfl | (simp; done) | (simp; omega)))
  replace HG := Go.Lib.hid (HG.out.below hb0)
  replace HE := Go.Lib.hid (HE0.out)
  replace Hhk := Go.Lib.hid (ConSim.ext E.cf (prApp E.cf R0) E t Hhk.out (below_ext hb0 t L))
  replace HD := Go.Lib.hid (HD.out.trans (below_did hb0 t L))
  clear hb0 HE0
  have q0_0 : (((w.alloc (.cells #[.int .i64 ticks] 3)).alloc (.cells #[.pointer (some ⟨E.k, 0, none⟩), .int .i64 wk, .int .i64 ticks, .int .i64 shard, .int .i64 user, .func (.func ghk) #[] chk] 145)).alloc (.cells #[.pointer (some ⟨w.heap.size + 1, 0, none⟩)] 143)).cell? ⟨w.heap.size + 1 + 1, 0, none⟩ = some (.pointer (some ⟨w.heap.size + 1, 0, none⟩)) := HE.out.cell 0 0 rfl rfl
  have q1_0 : (((w.alloc (.cells #[.int .i64 ticks] 3)).alloc (.cells #[.pointer (some ⟨E.k, 0, none⟩), .int .i64 wk, .int .i64 ticks, .int .i64 shard, .int .i64 user, .func (.func ghk) #[] chk] 145)).alloc (.cells #[.pointer (some ⟨w.heap.size + 1, 0, none⟩)] 143)).cell? ⟨w.heap.size + 1, 0, none⟩ = some (.pointer (some ⟨E.k, 0, none⟩)) := HE.out.cell 1 0 rfl rfl
  have q1_1 : (((w.alloc (.cells #[.int .i64 ticks] 3)).alloc (.cells #[.pointer (some ⟨E.k, 0, none⟩), .int .i64 wk, .int .i64 ticks, .int .i64 shard, .int .i64 user, .func (.func ghk) #[] chk] 145)).alloc (.cells #[.pointer (some ⟨w.heap.size + 1, 0, none⟩)] 143)).cell? ⟨w.heap.size + 1, 1, none⟩ = some (.int .i64 wk) := HE.out.cell 1 1 rfl rfl
  have q1_2 : (((w.alloc (.cells #[.int .i64 ticks] 3)).alloc (.cells #[.pointer (some ⟨E.k, 0, none⟩), .int .i64 wk, .int .i64 ticks, .int .i64 shard, .int .i64 user, .func (.func ghk) #[] chk] 145)).alloc (.cells #[.pointer (some ⟨w.heap.size + 1, 0, none⟩)] 143)).cell? ⟨w.heap.size + 1, 2, none⟩ = some (.int .i64 ticks) := HE.out.cell 1 2 rfl rfl
  have q1_3 : (((w.alloc (.cells #[.int .i64 ticks] 3)).alloc (.cells #[.pointer (some ⟨E.k, 0, none⟩), .int .i64 wk, .int .i64 ticks, .int .i64 shard, .int .i64 user, .func (.func ghk) #[] chk] 145)).alloc (.cells #[.pointer (some ⟨w.heap.size + 1, 0, none⟩)] 143)).cell? ⟨w.heap.size + 1, 3, none⟩ = some (.int .i64 shard) := HE.out.cell 1 3 rfl rfl
  have q1_4 : (((w.alloc (.cells #[.int .i64 ticks] 3)).alloc (.cells #[.pointer (some ⟨E.k, 0, none⟩), .int .i64 wk, .int .i64 ticks, .int .i64 shard, .int .i64 user, .func (.func ghk) #[] chk] 145)).alloc (.cells #[.pointer (some ⟨w.heap.size + 1, 0, none⟩)] 143)).cell? ⟨w.heap.size + 1, 4, none⟩ = some (.int .i64 user) := HE.out.cell 1 4 rfl rfl
  have q1_5 : (((w.alloc (.cells #[.int .i64 ticks] 3)).alloc (.cells #[.pointer (some ⟨E.k, 0, none⟩), .int .i64 wk, .int .i64 ticks, .int .i64 shard, .int .i64 user, .func (.func ghk) #[] chk] 145)).alloc (.cells #[.pointer (some ⟨w.heap.size + 1, 0, none⟩)] 143)).cell? ⟨w.heap.size + 1, 5, none⟩ = some (.func (.func ghk) #[] chk) := HE.out.cell 1 5 rfl rfl
  have q2_0 : (((w.alloc (.cells #[.int .i64 ticks] 3)).alloc (.cells #[.pointer (some ⟨E.k, 0, none⟩), .int .i64 wk, .int .i64 ticks, .int .i64 shard, .int .i64 user, .func (.func ghk) #[] chk] 145)).alloc (.cells #[.pointer (some ⟨w.heap.size + 1, 0, none⟩)] 143)).cell? ⟨w.heap.size, 0, none⟩ = some (.int .i64 ticks) := HE.out.cell 2 0 rfl rfl
  go_enter Tryz.func18, Tryz.ntmps18
  go_wp2_with fail
  generalize (((w.alloc (.cells #[.int .i64 ticks] 3)).alloc (.cells #[.pointer (some ⟨E.k, 0, none⟩), .int .i64 wk, .int .i64 ticks, .int .i64 shard, .int .i64 user, .func (.func ghk) #[] chk] 145)).alloc (.cells #[.pointer (some ⟨w.heap.size + 1, 0, none⟩)] 143)) = w0 at *
  refine (core_config HG.out).mono ?_
  rintro e w1 ⟨rfl, hb⟩
  clear q0_0 q1_0 q1_1 q1_2 q1_3 q1_4 q1_5 q2_0
  replace HG := Go.Lib.hid (HG.out.below hb)
  replace HE := Go.Lib.hid (HE.out.ext (below_ext hb t L))
  replace Hhk := Go.Lib.hid (ConSim.ext E.cf (prApp E.cf R0) E t Hhk.out (below_ext hb t L))
  replace HD := Go.Lib.hid (HD.out.trans (below_did hb t L))
  clear hb
  have q0_0 : w1.cell? ⟨w.heap.size + 1 + 1, 0, none⟩ = some (.pointer (some ⟨w.heap.size + 1, 0, none⟩)) := HE.out.cell 0 0 rfl rfl
  have q1_0 : w1.cell? ⟨w.heap.size + 1, 0, none⟩ = some (.pointer (some ⟨E.k, 0, none⟩)) := HE.out.cell 1 0 rfl rfl
  have q1_1 : w1.cell? ⟨w.heap.size + 1, 1, none⟩ = some (.int .i64 wk) := HE.out.cell 1 1 rfl rfl
  have q1_2 : w1.cell? ⟨w.heap.size + 1, 2, none⟩ = some (.int .i64 ticks) := HE.out.cell 1 2 rfl rfl
  have q1_3 : w1.cell? ⟨w.heap.size + 1, 3, none⟩ = some (.int .i64 shard) := HE.out.cell 1 3 rfl rfl
  have q1_4 : w1.cell? ⟨w.heap.size + 1, 4, none⟩ = some (.int .i64 user) := HE.out.cell 1 4 rfl rfl
  have q1_5 : w1.cell? ⟨w.heap.size + 1, 5, none⟩ = some (.func (.func ghk) #[] chk) := HE.out.cell 1 5 rfl rfl
  have q2_0 : w1.cell? ⟨w.heap.size, 0, none⟩ = some (.int .i64 ticks) := HE.out.cell 2 0 rfl rfl
  generalize E.cf.vals = vv at *
  go_wp2_with fail
  refine (idle_at HG.out (st0_con (bj := w.heap.size + 1 + 1) hR (HE.out.sub (env' := [(w.heap.size + 1 + 1, [.pointer (some ⟨w.heap.size + 1, 0, none⟩)]), (w.heap.size + 1, [.pointer (some ⟨E.k, 0, none⟩), .int .i64 wk, .int .i64 ticks, .int .i64 shard, .int .i64 user, .func (.func ghk) #[] chk])]) (by simp)) Hhk.out hw)).mono ?_
  rintro e w9 ⟨v2, L9, rfl, hd2, hg2, hc2⟩
  go_wp2
  go_ret
  exact ⟨v2, L9, rfl, HD.out.trans hd2, hg2, hc2⟩
set_option maxHeartbeats 4000000 in
theorem start_go (hR : RMono (prApp E.cf R0)) {m : Nat} {wk ticks shard user : Int} {vk : Value} {k : PR ρ} {L : Lab} {w : World} {S : St} (hg : Good E L S w) (hk : ConSim E.cf (prApp E.cf R0) E t isHe m L w vk (.ret k)) (hw : 0 ≤ wk) (htu : ticks < 9223372036854775808) (h1 : ¬ ticks < 0) (h2 : ¬ user < 0) (h3 : ¬ shard < 0) (h4 : ¬ (E.cf.workers : Int) ≤ shard) :
    Calls Tryz.prog 18 #[.pointer (some ⟨E.k, 0, none⟩), .int .i64 wk, .int .i64 ticks, .int .i64 shard, .int .i64 user, vk] w (Post E.cf (prApp E.cf R0) E t m L w (S, some (.load 0 (.ret (.st1 wk ticks shard user k))))) := by
  have henv := Env.nil L w
  have hd1 : decide (ticks < 0) = false := by simpa using h1
  have hd2 : decide (user < 0) = false := by simpa using h2
  have hd3 : decide (shard < 0) = false := by simpa using h3
  have hd4 : decide ((E.cf.workers : Int) ≤ shard) = false := by simpa using h4
  have htk : 0 ≤ ticks := by omega
  have HD := Go.Lib.hid (Did.refl t L w)
  have HG := Go.Lib.hid hg
  have HE := Go.Lib.hid henv
  obtain ⟨ghk, chk, hvhk, hgfhk, _⟩ := id hk
  subst hvhk
  have henhk : ∀ (args : Array Value) (w : World), (callFunc ghk args).run Tryz.prog w = .ok (.enter ghk args) w := hgfhk
  have Hhk := Go.Lib.hid hk
  clear hg henv hk hgfhk
  have hfld : ∀ w, (Instr.field 126 (.agg E.cf.vals) 0).run Tryz.prog w = .ok (.int .i64 E.cf.workers) w := fun _ => by kernel_rfl
  have hb0 : Below w.heap.size w (((w.alloc (.cells #[.int .i64 ticks] 3)).alloc (.cells #[.pointer (some ⟨E.k, 0, none⟩), .int .i64 wk, .int .i64 ticks, .int .i64 shard, .int .i64 user, .func (.func ghk) #[] chk] 145)).alloc (.cells #[.pointer (some ⟨w.heap.size + 1, 0, none⟩)] 143)) := ((((Below.refl _ _).alloc (Nat.le_refl _) _).alloc (by first | (simp; done) | (simp; omega)) _).alloc (by first | (simp; done) | (simp; omega)) _)
  have HE0 : Hid (Env L (((w.alloc (.cells #[.int .i64 ticks] 3)).alloc (.cells #[.pointer (some ⟨E.k, 0, none⟩), .int .i64 wk, .int .i64 ticks, .int .i64 shard, .int .i64 user, .func (.func ghk) #[] chk] 145)).alloc (.cells #[.pointer (some ⟨w.heap.size + 1, 0, none⟩)] 143)) [(w.heap.size + 1 + 1, [.pointer (some ⟨w.heap.size + 1, 0, none⟩)]), (w.heap.size + 1, [.pointer (some ⟨E.k, 0, none⟩), .int .i64 wk, .int .i64 ticks, .int .i64 shard, .int .i64 user, .func (.func ghk) #[] chk]), (w.heap.size, [.int .i64 ticks])]) := Go.Lib.hid (Env.alloc_at (Env.alloc_at (Env.alloc_at HE.out (fun b hb => HG.out.new b (by first | exact hb | (simp at hb; omega))) [.int .i64 ticks] 3 (b := w.heap.size) (by first | rfl | (simp; done) | (simp; omega))) (fun b hb => HG.out.new b (by first | exact hb | (simp at hb; omega))) [.pointer (some ⟨E.k, 0, none⟩), .int .i64 wk, .int .i64 ticks, .int .i64 shard, .int .i64 user, .func (.func ghk) #[] chk] 145 (b := w.heap.size + 1) (by first | rfl | (simp; done) | (simp; omega))) (fun b hb => HG.out.new b (by first | exact hb | (simp at hb; omega))) [.pointer (some ⟨w.heap.size + 1, 0, none⟩)] 143 (b := w.heap.size + 1 + 1) (by first | rfl | (simp; done) | (simp; omega)))
  replace HG := Go.Lib.hid (HG.out.below hb0)
  replace HE := Go.Lib.hid (HE0.out)
  replace Hhk := Go.Lib.hid (ConSim.ext E.cf (prApp E.cf R0) E t Hhk.out (below_ext hb0 t L))
  replace HD := Go.Lib.hid (HD.out.trans (below_did hb0 t L))
  clear hb0 HE0
  have q0_0 : (((w.alloc (.cells #[.int .i64 ticks] 3)).alloc (.cells #[.pointer (some ⟨E.k, 0, none⟩), .int .i64 wk, .int .i64 ticks, .int .i64 shard, .int .i64 user, .func (.func ghk) #[] chk] 145)).alloc (.cells #[.pointer (some ⟨w.heap.size + 1, 0, none⟩)] 143)).cell? ⟨w.heap.size + 1 + 1, 0, none⟩ = some (.pointer (some ⟨w.heap.size + 1, 0, none⟩)) := HE.out.cell 0 0 rfl rfl
  have q1_0 : (((w.alloc (.cells #[.int .i64 ticks] 3)).alloc (.cells #[.pointer (some ⟨E.k, 0, none⟩), .int .i64 wk, .int .i64 ticks, .int .i64 shard, .int .i64 user, .func (.func ghk) #[] chk] 145)).alloc (.cells #[.pointer (some ⟨w.heap.size + 1, 0, none⟩)] 143)).cell? ⟨w.heap.size + 1, 0, none⟩ = some (.pointer (some ⟨E.k, 0, none⟩)) := HE.out.cell 1 0 rfl rfl
  have q1_1 : (((w.alloc (.cells #[.int .i64 ticks] 3)).alloc (.cells #[.pointer (some ⟨E.k, 0, none⟩), .int .i64 wk, .int .i64 ticks, .int .i64 shard, .int .i64 user, .func (.func ghk) #[] chk] 145)).alloc (.cells #[.pointer (some ⟨w.heap.size + 1, 0, none⟩)] 143)).cell? ⟨w.heap.size + 1, 1, none⟩ = some (.int .i64 wk) := HE.out.cell 1 1 rfl rfl
  have q1_2 : (((w.alloc (.cells #[.int .i64 ticks] 3)).alloc (.cells #[.pointer (some ⟨E.k, 0, none⟩), .int .i64 wk, .int .i64 ticks, .int .i64 shard, .int .i64 user, .func (.func ghk) #[] chk] 145)).alloc (.cells #[.pointer (some ⟨w.heap.size + 1, 0, none⟩)] 143)).cell? ⟨w.heap.size + 1, 2, none⟩ = some (.int .i64 ticks) := HE.out.cell 1 2 rfl rfl
  have q1_3 : (((w.alloc (.cells #[.int .i64 ticks] 3)).alloc (.cells #[.pointer (some ⟨E.k, 0, none⟩), .int .i64 wk, .int .i64 ticks, .int .i64 shard, .int .i64 user, .func (.func ghk) #[] chk] 145)).alloc (.cells #[.pointer (some ⟨w.heap.size + 1, 0, none⟩)] 143)).cell? ⟨w.heap.size + 1, 3, none⟩ = some (.int .i64 shard) := HE.out.cell 1 3 rfl rfl
  have q1_4 : (((w.alloc (.cells #[.int .i64 ticks] 3)).alloc (.cells #[.pointer (some ⟨E.k, 0, none⟩), .int .i64 wk, .int .i64 ticks, .int .i64 shard, .int .i64 user, .func (.func ghk) #[] chk] 145)).alloc (.cells #[.pointer (some ⟨w.heap.size + 1, 0, none⟩)] 143)).cell? ⟨w.heap.size + 1, 4, none⟩ = some (.int .i64 user) := HE.out.cell 1 4 rfl rfl
  have q1_5 : (((w.alloc (.cells #[.int .i64 ticks] 3)).alloc (.cells #[.pointer (some ⟨E.k, 0, none⟩), .int .i64 wk, .int .i64 ticks, .int .i64 shard, .int .i64 user, .func (.func ghk) #[] chk] 145)).alloc (.cells #[.pointer (some ⟨w.heap.size + 1, 0, none⟩)] 143)).cell? ⟨w.heap.size + 1, 5, none⟩ = some (.func (.func ghk) #[] chk) := HE.out.cell 1 5 rfl rfl
  have q2_0 : (((w.alloc (.cells #[.int .i64 ticks] 3)).alloc (.cells #[.pointer (some ⟨E.k, 0, none⟩), .int .i64 wk, .int .i64 ticks, .int .i64 shard, .int .i64 user, .func (.func ghk) #[] chk] 145)).alloc (.cells #[.pointer (some ⟨w.heap.size + 1, 0, none⟩)] 143)).cell? ⟨w.heap.size, 0, none⟩ = some (.int .i64 ticks) := HE.out.cell 2 0 rfl rfl
  go_enter Tryz.func18, Tryz.ntmps18
  go_wp2_with fail
  generalize (((w.alloc (.cells #[.int .i64 ticks] 3)).alloc (.cells #[.pointer (some ⟨E.k, 0, none⟩), .int .i64 wk, .int .i64 ticks, .int .i64 shard, .int .i64 user, .func (.func ghk) #[] chk] 145)).alloc (.cells #[.pointer (some ⟨w.heap.size + 1, 0, none⟩)] 143)) = w0 at *
  refine (core_config HG.out).mono ?_
  rintro e w1 ⟨rfl, hb⟩
  clear q0_0 q1_0 q1_1 q1_2 q1_3 q1_4 q1_5 q2_0
  replace HG := Go.Lib.hid (HG.out.below hb)
  replace HE := Go.Lib.hid (HE.out.ext (below_ext hb t L))
  replace Hhk := Go.Lib.hid (ConSim.ext E.cf (prApp E.cf R0) E t Hhk.out (below_ext hb t L))
  replace HD := Go.Lib.hid (HD.out.trans (below_did hb t L))
  clear hb
  have q0_0 : w1.cell? ⟨w.heap.size + 1 + 1, 0, none⟩ = some (.pointer (some ⟨w.heap.size + 1, 0, none⟩)) := HE.out.cell 0 0 rfl rfl
  have q1_0 : w1.cell? ⟨w.heap.size + 1, 0, none⟩ = some (.pointer (some ⟨E.k, 0, none⟩)) := HE.out.cell 1 0 rfl rfl
  have q1_1 : w1.cell? ⟨w.heap.size + 1, 1, none⟩ = some (.int .i64 wk) := HE.out.cell 1 1 rfl rfl
  have q1_2 : w1.cell? ⟨w.heap.size + 1, 2, none⟩ = some (.int .i64 ticks) := HE.out.cell 1 2 rfl rfl
  have q1_3 : w1.cell? ⟨w.heap.size + 1, 3, none⟩ = some (.int .i64 shard) := HE.out.cell 1 3 rfl rfl
  have q1_4 : w1.cell? ⟨w.heap.size + 1, 4, none⟩ = some (.int .i64 user) := HE.out.cell 1 4 rfl rfl
  have q1_5 : w1.cell? ⟨w.heap.size + 1, 5, none⟩ = some (.func (.func ghk) #[] chk) := HE.out.cell 1 5 rfl rfl
  have q2_0 : w1.cell? ⟨w.heap.size, 0, none⟩ = some (.int .i64 ticks) := HE.out.cell 2 0 rfl rfl
  generalize E.cf.vals = vv at *
  go_wp2_with fail
  refine (core_cells HG.out).mono ?_
  rintro e w2 ⟨rfl, hb⟩
  subst hb
  go_wp2_with fail
  refine (core_plan HG.out).mono ?_
  rintro e w3 ⟨rfl, hb⟩
  subst hb
  go_wp2_with fail
  refine (plan_Clock _ _).mono ?_
  rintro e w4 ⟨rfl, hb⟩
  subst hb
  go_wp2_with fail
  refine (load_at hR (i := 0) HG.out (st1_con (bk := w.heap.size) (bj := w.heap.size + 1 + 1) hR (HE.out.sub (env' := [(w.heap.size, [.int .i64 ticks]), (w.heap.size + 1 + 1, [.pointer (some ⟨w.heap.size + 1, 0, none⟩)]), (w.heap.size + 1, [.pointer (some ⟨E.k, 0, none⟩), .int .i64 wk, .int .i64 ticks, .int .i64 shard, .int .i64 user, .func (.func ghk) #[] chk])]) (by simp)) Hhk.out hw htk htu)).mono ?_
  rintro e w9 ⟨v2, L9, rfl, hd2, hg2, hc2⟩
  go_wp2
  go_ret
  exact ⟨v2, L9, rfl, HD.out.trans hd2, hg2, hc2⟩
theorem start_any (hR : RMono (prApp E.cf R0)) {m : Nat} {wk ticks shard user : Int} {vk : Value} {k : PR ρ} {L : Lab} {w : World} {S : St} (hg : Good E L S w) (hk : ConSim E.cf (prApp E.cf R0) E t isHe m L w vk (.ret k)) (hw : 0 ≤ wk) (htu : ticks < 9223372036854775808) :
    Calls Tryz.prog 18 #[.pointer (some ⟨E.k, 0, none⟩), .int .i64 wk, .int .i64 ticks, .int .i64 shard, .int .i64 user, vk] w (Post E.cf (prApp E.cf R0) E t m L w (S, some (startK E.cf wk ticks shard user k))) := by
  unfold startK
  by_cases h1 : ticks < 0
  · rw [if_pos (.inl h1)]; exact start_i1 hR hg hk hw htu h1
  · by_cases h2 : user < 0
    · rw [if_pos (.inr (.inl h2))]; exact start_i2 hR hg hk hw htu h1 h2
    · by_cases h3 : shard < 0
      · rw [if_pos (.inr (.inr (.inl h3)))]; exact start_i3 hR hg hk hw htu h1 h2 h3
      · by_cases h4 : (E.cf.workers : Int) ≤ shard
        · rw [if_pos (.inr (.inr (.inr h4)))]; exact start_i4 hR hg hk hw htu h1 h2 h3 h4
        · rw [if_neg (by omega)]; exact start_go hR hg hk hw htu h1 h2 h3 h4
end
end Go.Proofs.YtgemjjpmoejgdaaGreat
/- What a caller's continuation of a Start writes down; the example of chapter 16. -/
namespace Go.Proofs.YtgemjjpmoejgdaaGreat
open Go.RowKit
set_option maxRecDepth 100000
set_option linter.unusedVariables false

theorem prApp_user {ρ : Type} (c : Cf) (R0 : ρ → Arg → St → St × Option (K (PR ρ))) (r : ρ) (a : Arg) (S : St) : prApp c R0 (.user r) a S = R0 r a S := by rw [prApp]

theorem CodeSim.le {ρ : Type} (cf : Cf) (R : ρ → Arg → St → St × Option (K ρ)) (E : G) (t : Nat) {n m : Nat} {L : Lab} {w : World} {v : Value} {k : Option (K ρ)} (h : CodeSim cf R E t m L w v k) (hn : n ≤ m) : CodeSim cf R E t n L w v k := by
  induction m with
  | zero => obtain rfl : n = 0 := by omega
            exact h
  | succ m ih =>
    by_cases e : n = m + 1
    · subst e; exact h
    · exact ih (CodeSim.down cf R E t h) (by omega)
/-- A core in which nothing has happened. -/
theorem shop_fresh {c : Cf} (hok : c.Ok) : Shop c (freshM c) (List.range' 0 c.nodes) (List.range' 0 c.tickets) (fun _ => []) where
  nodes := Ch.of_chain (S := S0 c) (lk := nlk c) (nodes_chain hok)
  tickets := Ch.of_chain (S := S0 c) (lk := tlk c) (tickets_chain hok)
  boxes := fun s hs => by
    have h := inb_bd hs
    rw [freshM_shard (inb c s) h.1 h.2]
    show part 0 0 32 = 0
    decide
  nlt := fun x hx => by have := List.mem_range'_1.1 hx; omega
  tlt := fun x hx => by have := List.mem_range'_1.1 hx; omega
  blt := fun s _ x hx => by cases hx
  nnd := List.nodup_range'
  tnd := List.nodup_range'
  bnd := fun _ _ => List.nodup_nil
  tb := fun _ _ _ _ h => by cases h
  bb := fun _ _ _ _ _ x hx => by cases hx
  key := fun _ _ x hx => by cases hx

theorem St.newR_knows (S : St) (b : Nat) (vs : List Value) {i : Nat} (hi : i < vs.length) : (S.newR b vs).knows (b, i) := by
  unfold St.knows St.newR regsOf
  rw [List.map_append, List.mem_append]
  refine .inl (List.mem_map.2 ⟨((b, i), vs[i]), List.mem_map.2 ⟨(vs[i], i), List.mem_zipIdx_iff_getElem?.2 ?_, rfl⟩, rfl⟩)
  simp [hi]
theorem St.setR_reads {S : St} {a : Nat × Nat} {v : Value} (h : S.knows a) : (S.setR a v).reads a v := by
  unfold St.knows at h
  obtain ⟨⟨b, u⟩, hm, rfl⟩ := List.mem_map.1 h
  unfold St.reads St.setR
  exact List.mem_map.2 ⟨(b, u), hm, if_pos rfl⟩
theorem Good.reads {E : G} {L : Lab} {S : St} {w : World} (h : Good E L S w) {b o : Nat} {v : Value} (hr : S.reads (b, o) v) : w.cell? ⟨b, o, none⟩ = some v := (h.rg b o v hr).1
def c16 : Cf := ⟨1, 1, 1, 2, 2, 0, 0, 0, 1, 1, 1, 0, 0⟩
end Go.Proofs.YtgemjjpmoejgdaaGreat
/- Deeds that are done alone, with a caller; a shop in which nothing has happened. -/
namespace Go.Proofs.YtgemjjpmoejgdaaGreat
open Go.RowKit
set_option maxRecDepth 100000
set_option linter.unusedVariables false

theorem Alone.runs {ρ : Type} {R0 : ρ → Arg → St → St × Option (K (PR ρ))} {c : Cf} {κ : K (PR ρ)} {r : ρ} {S : St} {a : Arg} {R' : ShopR} (hR : RMono (prApp c R0)) (h : Alone R0 c κ (.user r) S a R') :
    ∃ d T fn' ft' bx', 1 ≤ d ∧ d ≤ 8 * c.tickets + 17 ∧ RelR c T.m R' fn' ft' bx' ∧ T.n = S.n ∧ T.reg = S.reg ∧ T.sl = S.sl ∧ T.cnt ≤ S.cnt + d ∧ (∃ e, T.log = S.log ++ [e]) ∧
      ∀ T', R0 r a T = (T', none) → Bd T' → ∃ m, 1 ≤ m ∧ m ≤ d ∧ RunsF c (prApp c R0) κ S m T' := by
  obtain ⟨d, q, m', e, fn', ft', bx', hi, h1, h2, h3, hrel⟩ := h.ex
  refine ⟨d, (S.w q m').note e, fn', ft', bx', h1, h2, hrel, rfl, rfl, rfl, by show S.cnt + q ≤ _; omega, ⟨e, rfl⟩, fun T' hT hb => ?_⟩
  have hrun := hi 0
  rw [prApp_user, hT, iterR_none, Nat.zero_add] at hrun
  obtain ⟨m, hm, hr⟩ := runs_of_iter hR d _ _ _ hrun hb
  refine ⟨m, ?_, hm, hr⟩
  cases hr <;> omega

theorem freshM_node {c : Cf} (hok : c.Ok) (i j : Nat) (h : i < c.nodes) (hj : j = 1 ∨ j = 2) : freshM c (c.nodesAt + 4 * i + j) = 0 := by
  have h1 := hok.nodesAt_le
  have h2 : c.ticketsAt = c.nodesAt + 4 * c.nodes := rfl
  unfold freshM chains
  rw [stateM_off _ _ _ _ (fun i' _ => by omega), chainM_off _ _ _ _ (fun i' _ => by omega)]
  unfold upd
  rw [if_neg (by omega), chainM_off _ _ _ _ (fun i' hi' => by omega), if_neg (by omega)]
/-- A shop in which nothing has happened. -/
def freshR (c : Cf) : ShopR := { clock := 0, free := List.range' 0 c.nodes, tickets := c.tickets, nodes := List.replicate c.nodes { gen := c.first, time := 0, status := 0, user := 0, hgen := 0, hver := 0, hshard := 0 }, boxes := List.replicate c.workers [] }
theorem freshW_parts {c : Cf} (hok : c.Ok) : part (freshW c) 32 32 = c.first ∧ part (freshW c) 0 2 = 0 := by
  have h := hok.f2
  have h3 := state_parts3 c.first 0 0 (by omega) (by decide) (by decide)
  exact ⟨h3.1, h3.2.2⟩
theorem rel_fresh {c : Cf} (hok : c.Ok) : RelR c (freshM c) (freshR c) (List.range' 0 c.nodes) (List.range' 0 c.tickets) (fun _ => []) where
  shop := shop_fresh hok
  clock := freshM_zero hok
  cl := by show 0 ≤ _; omega
  free := rfl
  tickets := by show c.tickets = _; simp
  nl := by show (List.replicate _ _).length = _; simp
  node := fun x n h => by
    have h' : (List.replicate c.nodes ({ gen := c.first, time := 0, status := 0, user := 0, hgen := 0, hver := 0, hshard := 0 } : NodeR))[x]? = some n := h
    rw [List.getElem?_replicate] at h'
    split at h'
    · rename_i hx
      cases h'
      have hp := freshW_parts hok
      have h1 := freshM_node hok x 1 hx (.inl rfl)
      refine ⟨by rw [freshM_state x hx]; exact hp.1, by rw [freshM_state x hx]; exact hp.2, fun q => absurd (show (0 : Nat) = 1 from q) (by decide), fun q => absurd (show (0 : Nat) = 1 from q) (by decide), ?_, ?_, ?_⟩ <;> rw [h1] <;> simp [part]
    · cases h'
  bl := by show (List.replicate _ _).length = _; simp
  box := fun s hs => by show (List.replicate _ _).getD s [] = _; simp [hs]
  idle := fun x hx => by
    have hx' : x < c.nodes := by have := List.mem_range'_1.1 hx; omega
    rw [freshM_state x hx', (freshW_parts hok).2]
    decide
/-- A variable of the caller's and its slice are nothing to the shop. -/
theorem RelR.of_m {c : Cf} {m m' : Nat → Nat} {R : ShopR} {fn ft : List Nat} {bx : Nat → List Nat} (h : RelR c m R fn ft bx) (e : m' = m) : RelR c m' R fn ft bx := by rw [e]; exact h
end Go.Proofs.YtgemjjpmoejgdaaGreat
