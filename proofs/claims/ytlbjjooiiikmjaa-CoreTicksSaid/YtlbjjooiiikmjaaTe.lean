/- All that was noted, as a list. -/
import Derived.Test.YtlbjjooiiikmjaaTc
import Derived.Test.YtlbjjooiiikmjaaTd
namespace Go.Proofs.Ytlbjjooiiikmjaa
open Go.RowKit
set_option maxRecDepth 100000
set_option linter.unusedVariables false

set_option maxHeartbeats 1000000 in
theorem log_list_some (k g n cap : Nat) (news : List Value) (w : World) (hk : w.cell? ⟨k, 2, none⟩ = some (.slice (some ⟨g, 0, none⟩) n cap)) (hm : n ≤ 1000000) (hcap : n ≤ cap) (hl : news.length = n * 12) (hn : ∀ j u, news[j]? = some u → w.cell? ⟨g, j, none⟩ = some u) (hg : g < w.heap.size) (h1 : ∀ u ∈ news, u.oneCell' = true) :
    Calls Try.prog 15 #[.pointer (some ⟨k, 2, none⟩), .int .i64 0] w fun e w' => ∃ v, e = .returned v ∧ w'.ownsRow w.heap.size 43 12 v n news ∧ Below w.heap.size w w' := by
  have HC : Hid (∀ W, Below w.heap.size w W → Calls Try.prog 40 #[.slice (some ⟨g, 0, none⟩) n cap] W fun e w' => ∃ v, e = .returned v ∧ w'.ownsRow W.heap.size 43 12 v n news ∧ Below W.heap.size W w') := fun W hW =>
    clone_events g n cap news W hm hl (fun j u hj => below_cell hW (hn j u hj)) (Nat.lt_of_lt_of_le hg hW.size) h1
  clear hn
  have hk' : ∀ d os, (Sort.grow (redrawn w d) os).cell? ⟨k, 2, none⟩ = some (.slice (some ⟨g, 0, none⟩) n cap) := fun d os => cell_regrown hk d os
  have hmin : min (0 : Int) (n : Int) = 0 := by omega
  have hi1 : (0 : Int) ≤ (n : Int) := by omega
  go_enter Try.func15, Try.ntmps15
  go_wp2
  refine wp_region_below_tail 12 (by kernel_rfl) (by kernel_rfl) ?_
  simp only [List.take_succ_cons, List.take_zero, List.drop_succ_cons, List.drop_zero]
  repeat (go_big_quiet_step (fail))
  refine wpQuiet_nil ?_
  intro W1 hw'
  obtain ⟨p, rfl⟩ := hw'
  have hb := below_regrown w p.d p.os
  clear hk'
  generalize Sort.grow (redrawn w p.d) p.os = W1 at *
  go_wp2_with fail
  refine (HC.out W1 hb).mono ?_
  rintro e w2 ⟨v, rfl, hown, hb2⟩
  go_wp2
  go_ret
  exact ⟨v, rfl, own_mono hown hb.size, hb.trans (hb2.mono hb.size)⟩
set_option maxHeartbeats 1000000 in
theorem clone_nil (w : World) : Calls Try.prog 40 #[.slice none 0 0] w fun e w' => e = .returned (.slice none 0 0) ∧ w' = w := by
  have hcmp : ∀ w, Sem.run Try.prog (binOp BinOp.eql 35 (Value.slice none 0 0) (Value.slice none 0 0)) w = .ok (.bool true) w := fun w => by kernel_rfl
  go_enter Try.func40, Try.ntmps40
  go_wp2
  go_ret
  exact ⟨rfl, rfl⟩
set_option maxHeartbeats 1000000 in
theorem log_list_none (k : Nat) (w : World) (hk : w.cell? ⟨k, 2, none⟩ = some (.slice none 0 0)) :
    Calls Try.prog 15 #[.pointer (some ⟨k, 2, none⟩), .int .i64 0] w fun e w' => e = .returned (.slice none 0 0) ∧ Below w.heap.size w w' := by
  have hk' : ∀ d os, (Sort.grow (redrawn w d) os).cell? ⟨k, 2, none⟩ = some (.slice none 0 0) := fun d os => cell_regrown hk d os
  go_enter Try.func15, Try.ntmps15
  go_wp2
  refine wp_region_below_tail 12 (by kernel_rfl) (by kernel_rfl) ?_
  simp only [List.take_succ_cons, List.take_zero, List.drop_succ_cons, List.drop_zero]
  repeat (go_big_quiet_step (fail))
  refine wpQuiet_nil ?_
  intro W1 hw'
  obtain ⟨p, rfl⟩ := hw'
  have hb := below_regrown w p.d p.os
  clear hk'
  generalize Sort.grow (redrawn w p.d) p.os = W1 at *
  go_wp2_with fail
  refine (clone_nil W1).mono ?_
  rintro e w2 ⟨rfl, rfl⟩
  go_wp2
  go_ret
  exact ⟨rfl, hb⟩
theorem own_cells {w : World} {base : Nat} {e : TypeId} {size : Nat} {g n cap : Nat} {xs : List Value} (h : w.ownsRow base e size (.slice (some ⟨g, 0, none⟩) n cap) n xs) (j : Nat) (u : Value) (hj : xs[j]? = some u) : w.cell? ⟨g, j, none⟩ = some u := by
  rcases h.2 with ⟨he, _⟩ | ⟨g', cap', cur, he, _, hb, h1, h2, h3, h4⟩
  · cases he
  · obtain ⟨rfl, rfl⟩ : g' = g ∧ cap' = cap := by cases he; exact ⟨rfl, rfl⟩
    rw [cell_of_row _ _ _ _ _ _ hb]
    rw [← h4, List.getElem?_take] at hj
    split at hj
    · simpa using hj
    · cases hj
theorem cells_one (e : Ev) : ∀ u ∈ e.cells, u.oneCell' = true := by
  intro u hu
  simp only [Ev.cells, List.mem_cons, List.not_mem_nil, or_false] at hu
  rcases hu with rfl | rfl | rfl | rfl | rfl | rfl | rfl | rfl | rfl | rfl | rfl | rfl <;> rfl
theorem flat_length (l : List Ev) : (l.flatMap Ev.cells).length = l.length * 12 := by
  induction l with
  | nil => rfl
  | cons a l ih => rw [List.flatMap_cons, List.length_append, ih, List.length_cons]; show 12 + _ = _; omega
/-- All that was noted. -/
theorem log_list {E : G} {L : Lab} {S : St} {w : World} (hg : Good E L S w) (hn : S.log.length ≤ 1000000) :
    Calls Try.prog 15 #[.pointer (some ⟨E.k, 2, none⟩), .int .i64 0] w fun e w' => ∃ v, e = .returned v ∧ w'.ownsRow w.heap.size 43 12 v S.log.length (S.log.flatMap Ev.cells) ∧ Below w.heap.size w w' := by
  obtain ⟨lv, hlv, hown, _⟩ := hg.lg.ex
  have hown' := hown
  rcases hown.2 with ⟨rfl, h0⟩ | ⟨g, cap, cur, rfl, _, hb, h1, h2, h3, h4⟩
  · refine (log_list_none E.k w hlv).mono ?_
    rintro e w' ⟨rfl, hb⟩
    have hz : S.log = [] := List.length_eq_zero_iff.1 h0
    refine ⟨_, rfl, ?_, hb⟩
    rw [hz]
    exact World.ownsRow_nil _ _ _ _
  · exact log_list_some E.k g S.log.length cap _ w hlv hn (by omega) (flat_length _) (own_cells hown') (own_lt hown' (show _ = some g from rfl)) (by
      intro u hu
      obtain ⟨e, _, he⟩ := List.mem_flatMap.1 hu
      exact cells_one e u he)
end Go.Proofs.Ytlbjjooiiikmjaa

