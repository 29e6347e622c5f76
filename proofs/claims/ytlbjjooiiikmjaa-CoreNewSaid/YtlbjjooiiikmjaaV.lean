/- Two lists of numbers that are the same; what a core has; the document's example. -/
import Derived.Test.YtlbjjooiiikmjaaH
namespace Go.Proofs.Ytlbjjooiiikmjaa
open Go.RowKit
set_option maxRecDepth 100000
set_option linter.unusedVariables false

theorem own_cell {w : World} {base : Nat} {e : TypeId} {v : Value} {n : Nat} {xs : List Value} (h : w.ownsRow base e 1 v n xs) (hn : 0 < n) :
    ∃ g cap, v = .slice (some ⟨g, 0, none⟩) n cap ∧ ∀ i, i < n → w.cell? ⟨g, i, none⟩ = some (xs.getD i (.bool false)) := by
  rcases h.2 with ⟨_, h0⟩ | ⟨g, cap, cur, rfl, _, hb, h1, h2, h3, h4⟩
  · omega
  · refine ⟨g, cap, rfl, fun i hi => ?_⟩
    rw [cell_of_row _ _ _ _ _ _ hb]
    have hlt : i < cur.size := by omega
    have h5 : xs[i]? = cur[i]? := by
      rw [← h4, List.getElem?_take]
      simp; omega
    have h6 : i < xs.length := by rw [h.1]; omega
    rw [List.getD_eq_getElem?_getD, h5]
    simp [hlt]

set_option maxHeartbeats 1000000 in
theorem same_yes {base base' : Nat} (w : World) (va vb : Value) (xs : List Int) (ha : w.ownsRow base 3 1 va xs.length (xs.map (Value.int .i64))) (hb : w.ownsRow base' 3 1 vb xs.length (xs.map (Value.int .i64))) (hl : xs.length ≤ 1048576) :
    Calls Try.prog 24 #[va, vb] w (Qt (.bool true) w) := by
  by_cases h0 : xs.length = 0
  · obtain ⟨a1, c1, rfl⟩ := own_form ha
    obtain ⟨a2, c2, rfl⟩ := own_form hb
    rw [h0]
    clear ha hb
    go_enter Try.func24, Try.ntmps24
    go_wp2
    go_loop [5] (fun i => i = .int .i64 0) (fun _ => 0)
    case atStart => rfl
    case round =>
      subst hrel
      go_wp2
      go_ret
      exact ⟨rfl, 0, rfl⟩
  · obtain ⟨g1, c1, rfl, d1⟩ := own_cell ha (by omega)
    obtain ⟨g2, c2, rfl, d2⟩ := own_cell hb (by omega)
    clear ha hb
    have HD1 : Hid (∀ i, i < xs.length → w.cell? ⟨g1, i, none⟩ = some (.int .i64 (xs.getD i 0))) := fun i hi => by
      have := d1 i hi
      rw [List.getD_eq_getElem?_getD] at this ⊢
      simpa [hi] using this
    have HD2 : Hid (∀ i, i < xs.length → w.cell? ⟨g2, i, none⟩ = some (.int .i64 (xs.getD i 0))) := fun i hi => by
      have := d2 i hi
      rw [List.getD_eq_getElem?_getD] at this ⊢
      simpa [hi] using this
    clear d1 d2
    generalize hn : xs.length = n at *
    clear hn
    go_enter Try.func24, Try.ntmps24
    go_wp2
    go_loopw [5] (fun i wr => ∃ k q : Nat, k ≤ n ∧ i = .int .i64 k ∧ wr = w.drewN q) (fun i _ => n - (intOf i).toNat)
    case atStart => exact ⟨0, 0, Nat.zero_le _, rfl, rfl⟩
    case round =>
      obtain ⟨k, q, hk, rfl, rfl⟩ := hrel
      by_cases hlt : k < n
      · have e1 := HD1.out k hlt
        have e2 := HD2.out k hlt
        have b1 : (0 : Int) ≤ (k : Int) := by omega
        have b2 : (k : Int) < (n : Int) := by omega
        go_wp2
        go_quiet (fail)
        go_wp2
        exact ⟨⟨k + 1, q + nq, by omega, by go_num, rfl⟩, by simp [intOf]; omega⟩
      · have s4 : ((k : Int) < n) = False := by simp; omega
        go_wp2
        go_ret
        exact ⟨rfl, q, rfl⟩
set_option maxHeartbeats 4000000 in
theorem law15_whole {E : G} {L : Lab} {S : St} {w : World} (hg : Good E L S w) :
    Calls Try.prog 34 #[.pointer (some ⟨E.k, 0, none⟩)] w fun e w' => e = .returned (.bool true) ∧ Below w.heap.size w w' := by
  have HG := Go.Lib.hid hg
  have h1 : Hid (∀ W, Below w.heap.size w W → Calls Try.prog 25 #[.pointer (some ⟨E.k, 0, none⟩)] W fun e w' => e = .returned (.agg #[.pointer (some ⟨E.a, 0, none⟩), .int .i64 1, (.func (.func 48) #[.pointer (some ⟨E.p, 0, none⟩)] #[])]) ∧ Below W.heap.size W w') := fun W h => core_Nodes (HG.out.below h)
  have h2 : Hid (∀ W, Below w.heap.size w W → Calls Try.prog 28 #[.pointer (some ⟨E.k, 0, none⟩)] W fun e w' => e = .returned (.agg #[.pointer (some ⟨E.a, 0, none⟩), .int .i64 2, (.func (.func 52) #[.pointer (some ⟨E.p, 0, none⟩)] #[])]) ∧ Below W.heap.size W w') := fun W h => core_Tickets (HG.out.below h)
  have h3 : Hid (∀ W, Below w.heap.size w W → Calls Try.prog 29 #[.pointer (some ⟨E.k, 0, none⟩), .int .i64 0] W fun e w' => e = .returned (.agg #[.pointer (some ⟨E.a, 0, none⟩), .int .i64 (E.cf.inbox 0), (.func (.func 52) #[.pointer (some ⟨E.p, 0, none⟩)] #[]), .func (.func 54) #[.pointer (some ⟨E.k, 0, none⟩)] #[], .pointer (some ⟨E.a, 0, none⟩), .int .i64 2, (.func (.func 52) #[.pointer (some ⟨E.p, 0, none⟩)] #[])]) ∧ Below W.heap.size W w') := fun W h => core_box (HG.out.below h) 0
  have h4 : Hid (∀ W, Below w.heap.size w W → Calls Try.prog 31 #[.pointer (some ⟨E.k, 0, none⟩), .int .i64 0] W fun e w' => e = .returned (.agg #[.pointer (some ⟨E.a, 0, none⟩), .int .i64 E.cf.levels, .int .i64 E.cf.bits, .int .i64 (E.cf.over 0), .func (.func 56) #[] #[.pointer (some ⟨W.heap.size, 0, none⟩), .pointer (some ⟨W.heap.size + 1, 0, none⟩)], .func (.func 58) #[] #[.pointer (some ⟨W.heap.size, 0, none⟩), .pointer (some ⟨W.heap.size + 1, 0, none⟩)], (.func (.func 52) #[.pointer (some ⟨E.p, 0, none⟩)] #[])]) ∧ Below W.heap.size W w') := fun W h => (core_wheel (HG.out.below h) 0).mono fun _ _ ⟨a, b, _, _⟩ => ⟨a, b⟩
  have hf1 : ∀ w : World, (Instr.field 56 (.agg #[.pointer (some ⟨E.a, 0, none⟩), .int .i64 1, (.func (.func 48) #[.pointer (some ⟨E.p, 0, none⟩)] #[])]) 0).run Try.prog w = .ok (.pointer (some ⟨E.a, 0, none⟩)) w := fun _ => by kernel_rfl
  have hf2 : ∀ w : World, (Instr.field 56 (.agg #[.pointer (some ⟨E.a, 0, none⟩), .int .i64 2, (.func (.func 52) #[.pointer (some ⟨E.p, 0, none⟩)] #[])]) 0).run Try.prog w = .ok (.pointer (some ⟨E.a, 0, none⟩)) w := fun _ => by kernel_rfl
  have hf3 : ∀ w : World, (Instr.field 62 (.agg #[.pointer (some ⟨E.a, 0, none⟩), .int .i64 (E.cf.inbox 0), (.func (.func 52) #[.pointer (some ⟨E.p, 0, none⟩)] #[]), .func (.func 54) #[.pointer (some ⟨E.k, 0, none⟩)] #[], .pointer (some ⟨E.a, 0, none⟩), .int .i64 2, (.func (.func 52) #[.pointer (some ⟨E.p, 0, none⟩)] #[])]) 0).run Try.prog w = .ok (.pointer (some ⟨E.a, 0, none⟩)) w := fun _ => by kernel_rfl
  have hf4 : ∀ (b : Nat) (w : World), (Instr.field 67 (.agg #[.pointer (some ⟨E.a, 0, none⟩), .int .i64 E.cf.levels, .int .i64 E.cf.bits, .int .i64 (E.cf.over 0), .func (.func 56) #[] #[.pointer (some ⟨b, 0, none⟩), .pointer (some ⟨b + 1, 0, none⟩)], .func (.func 58) #[] #[.pointer (some ⟨b, 0, none⟩), .pointer (some ⟨b + 1, 0, none⟩)], (.func (.func 52) #[.pointer (some ⟨E.p, 0, none⟩)] #[])]) 0).run Try.prog w = .ok (.pointer (some ⟨E.a, 0, none⟩)) w := fun _ _ => by kernel_rfl
  clear hg
  go_enter Try.func34, Try.ntmps34
  go_wp2_with (first
    | (go_at_call 8; refine (core_cells HG.out).mono ?_; rintro e w' ⟨rfl, rfl⟩)
    | (go_at_call 10; refine (core_plan HG.out).mono ?_; rintro e w' ⟨rfl, rfl⟩)
    | (go_at_call 14; refine (core_log HG.out).mono ?_; rintro e w' ⟨rfl, rfl⟩)
    | fail)
  refine (h1.out _ (Below.refl _ _)).mono ?_
  rintro e w1 ⟨rfl, hb1⟩
  go_wp2_with fail
  refine (h2.out _ hb1).mono ?_
  rintro e w2 ⟨rfl, hb2⟩
  have hb2 := hb1.trans (hb2.mono hb1.size)
  go_wp2_with fail
  refine (h3.out _ hb2).mono ?_
  rintro e w3 ⟨rfl, hb3⟩
  have hb3 := hb2.trans (hb3.mono hb2.size)
  go_wp2_with fail
  refine (h4.out _ hb3).mono ?_
  rintro e w4 ⟨rfl, hb4⟩
  have hb4 := hb3.trans (hb4.mono hb3.size)
  go_wp2
  go_ret
  exact ⟨rfl, hb4⟩
end Go.Proofs.Ytlbjjooiiikmjaa

