/- The document's example: it holds. -/
import Derived.Test.YtlbjjooiiikmjaaV
namespace Go.Proofs.Ytlbjjooiiikmjaa
open Go.RowKit
set_option maxRecDepth 100000
set_option linter.unusedVariables false

theorem Shr.below_old {L L' : Lab} {w W W' : World} {n : Nat} (h : Shr L W L' W') (hb : Below n w W) (hn : n ≤ w.heap.size) (old : ∀ b, b < n → L b = 0) : Below n w W' :=
  ⟨h.os.trans hb.os, h.tape.trans hb.tape, h.output.trans hb.output, Nat.le_trans hb.size h.size, fun b hb' => (h.block b (by have := hb.size; omega) (.inl (old b hb'))).trans (hb.block b hb')⟩

def c0 : Cf := ⟨1, 1, 1, 3, 1, 0, 0, 0, 1, 1, 1, 0, 0⟩
theorem c0_ok : c0.Ok := by constructor <;> decide
theorem c0_chain : ChainOf (S0 c0) (fun i => c0.nodesAt + 4 * i + 3) ((part ((S0 c0).m 1) 0 32 : Int) - 1) [0, 1, 2] := by
  have m1 : freshM c0 1 = 1 := by decide
  have m12 : freshM c0 12 = 2 := by decide
  have m16 : freshM c0 16 = 3 := by decide
  have m20 : freshM c0 20 = 0 := by decide
  have e0 : c0.nodesAt = 9 := by decide
  have e1 : c0.size = 24 := by decide
  simp [ChainOf, S0, e0, e1, m1, m12, m16, m20, part]

set_option maxHeartbeats 4000000 in
theorem law15_speaks (w : World) : Calls Try.prog 5 #[] w fun e w' => e = .returned (.bool true) ∧ Below w.heap.size w w' := by
  have HN : Hid (∀ w, Calls Try.prog 17 #[.agg #[.int .i64 1, .int .i64 1, .int .i64 1, .int .i64 3, .int .i64 1, .int .i64 0, .int .i64 0, .int .i64 0, .int .i64 1, .int .i64 1, .int .i64 1, .int .i64 0, .int .i64 0]] w fun e w' => ∃ E L, e = .returned (.tuple #[.pointer (some ⟨E.k, 0, none⟩), .int .i64 0]) ∧ Born c0 w E L w') := fun w => core_new c0 c0_ok w
  go_enter Try.func5, Try.ntmps5
  go_wp2_with fail
  refine (HN.out _).mono ?_
  rintro e w1 ⟨E, L, rfl, hborn⟩
  obtain ⟨hcf, hg, hbl, hold, hnr, hek⟩ := hborn
  have HG := Go.Lib.hid hg
  have HCF := Go.Lib.hid hcf
  have HBL := Go.Lib.hid hbl
  have HOLD := Go.Lib.hid hold
  clear hg hcf hbl hold hnr hek HN
  go_wp2_with fail
  refine (law15_whole HG.out).mono ?_
  rintro e w2 ⟨rfl, hb2⟩
  have HB2 := Go.Lib.hid hb2
  clear hb2
  go_wp2_with fail
  have HNO : Calls Try.prog 25 #[.pointer (some ⟨E.k, 0, none⟩)] w2 fun e w' => e = .returned (.agg #[.pointer (some ⟨E.a, 0, none⟩), .int .i64 1, .func (.func 48) #[.pointer (some ⟨E.p, 0, none⟩)] #[]]) ∧ Below w2.heap.size w2 w' := core_Nodes (HG.out.below HB2.out)
  refine HNO.mono ?_
  rintro e w3 ⟨rfl, hb3⟩
  have HB3 := Go.Lib.hid (HB2.out.trans (hb3.mono HB2.out.size))
  clear hb3 HNO
  go_wp2_with fail
  have HLI : Calls Try.prog 26 #[.agg #[.pointer (some ⟨E.a, 0, none⟩), .int .i64 1, .func (.func 48) #[.pointer (some ⟨E.p, 0, none⟩)] #[]]] w3 fun e w' => ∃ v, e = .returned v ∧ w'.ownsRow w3.heap.size 3 1 v 3 [.int .i64 0, .int .i64 1, .int .i64 2] ∧ Below w3.heap.size w3 w' :=
    stack_list (HG.out.below HB3.out) 48 (fun _ _ => by kernel_rfl) 1 (by decide) (fun i => c0.nodesAt + 4 * i + 3) [0, 1, 2]
      (fun x hx w hp => by
        have h := plan_NodeLink (HG.out.ok) E.p x w hp
        rw [nodeLink_at E.cf x (by rw [HCF.out]; simp at hx; show x < 3; omega), HCF.out] at h
        exact h) c0_chain (by decide)
  refine HLI.mono ?_
  rintro e w4 ⟨v, rfl, hown, hb4⟩
  have HB4 := Go.Lib.hid (HB3.out.trans (hb4.mono HB3.out.size))
  have HOWN := Go.Lib.hid hown
  clear hb4 hown HLI
  go_wp2_with fail
  have hal : Below w4.heap.size w4 (w4.alloc (.cells #[.int .i64 0, .int .i64 1, .int .i64 2] 3)) := (Below.refl _ _).alloc (Nat.le_refl _) _
  have ho1 := own_kept HOWN.out (fun g hg => hal.block g (own_lt HOWN.out hg))
  have ho2 : World.ownsRow (w4.alloc (.cells #[.int .i64 0, .int .i64 1, .int .i64 2] 3)) 0 3 1 (.slice (some ⟨w4.heap.size, 0, none⟩) 3 3) 3 [.int .i64 0, .int .i64 1, .int .i64 2] :=
    ⟨rfl, .inr ⟨w4.heap.size, 3, _, rfl, Nat.zero_le _, heap_alloc_new _ _, by decide, by decide, rfl, rfl⟩⟩
  have HB5 := Go.Lib.hid (HB4.out.trans (hal.mono HB4.out.size))
  have hs := same_yes _ v (.slice (some ⟨w4.heap.size, 0, none⟩) 3 3) [0, 1, 2] ho1 ho2 (by decide)
  clear ho1 ho2 hal
  generalize (w4.alloc (.cells #[.int .i64 0, .int .i64 1, .int .i64 2] 3)) = w5 at *
  refine hs.mono ?_
  intro e w6 hq
  obtain ⟨rfl, hb6⟩ := hq.below
  have HB6 := Go.Lib.hid (HB5.out.trans (hb6.mono HB5.out.size))
  clear hb6 hq hs
  go_wp2_with fail
  refine (core_tick (HG.out.below HB6.out) (by decide) (by show freshM c0 0 < _; decide) (by decide) (by decide)).mono ?_
  rintro e w7 ⟨L', rfl, hg7, hs7⟩
  have HG7 := Go.Lib.hid hg7
  have HB7 := Go.Lib.hid (hs7.below_old (HBL.out.trans (HB6.out.mono HBL.out.size)) (Nat.le_refl _) HOLD.out)
  clear hg7 hs7
  go_wp2_with fail
  have HCK : Calls Try.prog 13 #[.pointer (some ⟨E.k, 0, none⟩)] w7 fun e w' => e = .returned (.int .i64 1) ∧ Below w7.heap.size w7 w' := core_clock HG7.out (by decide) (by decide)
  refine HCK.mono ?_
  rintro e w8 ⟨rfl, hb8⟩
  have HB8 := Go.Lib.hid (HB7.out.trans (hb8.mono HB7.out.size))
  clear hb8 HCK
  go_wp2
  go_ret
  exact ⟨rfl, HB8.out⟩
end Go.Proofs.Ytlbjjooiiikmjaa

