/- The history as a list. -/
import Derived.Test.YtlbjjooiiikmjaaI
import Derived.Laws.EntriesVeiled
namespace Go.Proofs.Ytlbjjooiiikmjaa
open Go.RowKit
set_option maxRecDepth 100000
set_option linter.unusedVariables false

set_option maxHeartbeats 1000000 in
theorem clone_events (g m cap : Nat) (news : List Value) (w : World) (hm : m ≤ 1000000) (hl : news.length = m * 12) (hn : ∀ j u, news[j]? = some u → w.cell? ⟨g, j, none⟩ = some u) (hg : g < w.heap.size) (h1 : ∀ u ∈ news, u.oneCell' = true) :
    Calls Try.prog 40 #[.slice (some ⟨g, 0, none⟩) m cap] w fun e w' => ∃ v, e = .returned v ∧ w'.ownsRow w.heap.size 43 12 v m news ∧ Below w.heap.size w w' := by
  have hinfo : (Try.prog.info? 43).map (fun i => (i.zero, i.size, i.bytes)) = some (some (.agg #[.int .i64 0, .int .i64 0, .int .i64 0, .int .i64 0, .int .i64 0, .int .i64 0, .int .i64 0, .int .i64 0, .int .i64 0, .int .i64 0, .bool false, .int .i64 0]), 12, 96) := by kernel_rfl
  have hund : Try.prog.underlying 35 = some (.slice 43) := by kernel_rfl
  obtain ⟨i0, hi0, hz0, hz1, hz2⟩ := info_parts hinfo
  have HN : Hid (∀ W, Below w.heap.size w W → ∀ j u, news[j]? = some u → W.cell? ((⟨g, 0, none⟩ : Addr).add j) = some u) := fun W hW j u hj => by
    have := below_cell hW (hn j u hj)
    by_cases e : j = 0
    · subst e; simpa [Addr.add] using this
    · simpa [Addr.add, e] using this
  clear hn
  have hcmp : ∀ w, Sem.run Try.prog (binOp BinOp.eql 35 (Value.slice (some ⟨g, 0, none⟩) m cap) (Value.slice none 0 0)) w = .ok (.bool false) w := fun w => by kernel_rfl
  go_enter Try.func40, Try.ntmps40
  have hal : Below w.heap.size w (w.alloc (.cells #[] 43)) := (Below.refl _ _).alloc (Nat.le_refl _) _
  have hown0 : World.ownsRow (w.alloc (.cells #[] 43)) w.heap.size 43 12 (.slice (some ⟨w.heap.size, 0, none⟩) 0 0) 0 [] :=
    ⟨rfl, .inr ⟨w.heap.size, 0, #[], rfl, Nat.le_refl _, heap_alloc_new _ _, by decide, by decide, rfl, rfl⟩⟩
  have HOWN := Go.Lib.hid hown0
  have HAL := Go.Lib.hid hal
  clear hown0 hal
  go_wp2_with (first
    | (at_builtin; refine wpList_append_own _ rfl _ _ 35 rfl w.heap.size 43 i0 _ 12 96 hund hi0 hz0 hz1 hz2 rfl (by decide) _ 0 [] rfl HOWN.out ⟨g, 0, none⟩ m cap news rfl hl (HN.out _ HAL.out) h1 (by unfold maxLen; omega) (by omega) (by simp) ?_; intro v1 w1 hown1 hgrow1 hnil1)
    | fail)
  go_ret
  rw [Nat.zero_add, List.nil_append] at hown1
  refine ⟨v1, rfl, hown1, HAL.out.grown hgrow1 ?_ ?_⟩
  · simp
  · intro k hk
    have hk2 : some w.heap.size = some k := hk
    have := Option.some.inj hk2
    omega
end Go.Proofs.Ytlbjjooiiikmjaa

