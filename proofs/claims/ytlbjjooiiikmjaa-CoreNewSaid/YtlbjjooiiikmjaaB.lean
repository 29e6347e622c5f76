/- The document's configurations: which may be. -/
import Derived.Test.YtlbjjooiiikmjaaY
namespace Go.Proofs.Ytlbjjooiiikmjaa
open Go.RowKit
set_option maxRecDepth 100000
set_option linter.unusedVariables false

def leastN : List Nat := [1, 1, 1, 1, 1, 0, 0, 0, 1, 1, 1, 0, 0]
def mostN : List Nat := [64, 8, 6, 4096, 8192, 1073741823, 4294967295, 256, 1073741823, 1073741823, 1073741823, 1073741823, 31]
set_option maxHeartbeats 1000000 in
theorem ref_least (i : Nat) (hi : i < 13) (w : World) : Calls Try.prog 68 #[.int .i64 i] w fun e w' => e = .returned (.int .i64 (leastN.getD i 0 : Nat)) ∧ w' = w := by
  match i, hi with
  | 0, _ | 1, _ | 2, _ | 3, _ | 4, _ | 5, _ | 6, _ | 7, _ | 8, _ | 9, _ | 10, _ | 11, _ | 12, _ =>
    go_enter Try.func68, Try.ntmps68
    go_wp2
    go_ret
    exact ⟨rfl, rfl⟩
set_option maxHeartbeats 1000000 in
theorem ref_most (i : Nat) (hi : i < 13) (w : World) : Calls Try.prog 69 #[.int .i64 i] w fun e w' => e = .returned (.int .i64 (mostN.getD i 0 : Nat)) ∧ w' = w := by
  match i, hi with
  | 0, _ | 1, _ | 2, _ | 3, _ | 4, _ | 5, _ | 6, _ | 7, _ | 8, _ | 9, _ | 10, _ | 11, _ | 12, _ =>
    go_enter Try.func69, Try.ntmps69
    go_wp2
    go_ret
    exact ⟨rfl, rfl⟩
theorem below_drewN' {n : Nat} {w W : World} (hb : Below n w W) (q : Nat) : Below n w (W.drewN q) := ⟨hb.os, hb.tape, hb.output, hb.size, hb.block⟩
def okI (x : Nat → Int) : Prop := ∀ i, i < 13 → (leastN.getD i 0 : Int) ≤ x i ∧ x i ≤ (mostN.getD i 0 : Int)
instance (x : Nat → Int) : Decidable (okI x) := by unfold okI; infer_instance
set_option maxHeartbeats 2000000 in
theorem ref_Check (x : Nat → Int) (w : World) : Calls Try.prog 41 #[.agg #[.int .i64 (x 0), .int .i64 (x 1), .int .i64 (x 2), .int .i64 (x 3), .int .i64 (x 4), .int .i64 (x 5), .int .i64 (x 6), .int .i64 (x 7), .int .i64 (x 8), .int .i64 (x 9), .int .i64 (x 10), .int .i64 (x 11), .int .i64 (x 12)]] w fun e w' => ∃ a, e = .returned (.tuple #[.int .i64 a, .int .i64 (if okI x then 0 else 7)]) ∧ Below w.heap.size w w' := by
  have hc : ∀ k, k < 13 → (w.alloc (.cells #[.int .i64 (x 0), .int .i64 (x 1), .int .i64 (x 2), .int .i64 (x 3), .int .i64 (x 4), .int .i64 (x 5), .int .i64 (x 6), .int .i64 (x 7), .int .i64 (x 8), .int .i64 (x 9), .int .i64 (x 10), .int .i64 (x 11), .int .i64 (x 12)] 23)).cell? ⟨w.heap.size, k, none⟩ = some (.int .i64 (x k)) := by
    intro k hk
    rw [World.cell?_alloc_new]
    match k, hk with
    | 0, _ | 1, _ | 2, _ | 3, _ | 4, _ | 5, _ | 6, _ | 7, _ | 8, _ | 9, _ | 10, _ | 11, _ | 12, _ => rfl
  have hb : Below w.heap.size w (w.alloc (.cells #[.int .i64 (x 0), .int .i64 (x 1), .int .i64 (x 2), .int .i64 (x 3), .int .i64 (x 4), .int .i64 (x 5), .int .i64 (x 6), .int .i64 (x 7), .int .i64 (x 8), .int .i64 (x 9), .int .i64 (x 10), .int .i64 (x 11), .int .i64 (x 12)] 23)) := (Below.refl _ _).alloc (Nat.le_refl _) _
  have HC := Go.Lib.hid hc
  clear hc
  go_enter Try.func41, Try.ntmps41
  go_wp2
  generalize (w.alloc (.cells #[.int .i64 (x 0), .int .i64 (x 1), .int .i64 (x 2), .int .i64 (x 3), .int .i64 (x 4), .int .i64 (x 5), .int .i64 (x 6), .int .i64 (x 7), .int .i64 (x 8), .int .i64 (x 9), .int .i64 (x 10), .int .i64 (x 11), .int .i64 (x 12)] 23)) = W at *
  generalize hbx : w.heap.size = bx at *
  go_loopw [4] (fun i wr => ∃ k : Nat, k ≤ 13 ∧ i = .int .i64 k ∧ Below W.heap.size W wr ∧ ∀ j, j < k → (leastN.getD j 0 : Int) ≤ x j ∧ x j ≤ (mostN.getD j 0 : Int)) (fun i _ => 13 - (intOf i).toNat)
  case atStart => exact ⟨0, Nat.zero_le _, rfl, Below.refl _ _, fun j hj => absurd hj (by omega)⟩
  case round =>
    obtain ⟨k, hk, rfl, hbw, hall⟩ := hrel
    have hbT := hb.trans (hbw.mono (hbx ▸ hb.size))
    have HALL := Go.Lib.hid hall
    clear hall
    by_cases hlt : k < 13
    · have e1 := below_cell hbw (HC.out k hlt)
      have b1 : (0 : Int) ≤ (k : Int) := by omega
      have b2 : (k : Int) < 13 := by omega
      have HL := Go.Lib.hid (ref_least k hlt)
      have HM := Go.Lib.hid (ref_most k hlt)
      have HOK : Hid (okI x → (leastN.getD k 0 : Int) ≤ x k ∧ x k ≤ (mostN.getD k 0 : Int)) := fun h => h k hlt
      have HNX : Hid ((leastN.getD k 0 : Int) ≤ x k ∧ x k ≤ (mostN.getD k 0 : Int) → ∀ j, j < k + 1 → (leastN.getD j 0 : Int) ≤ x j ∧ x j ≤ (mostN.getD j 0 : Int)) := fun h j hj => by
        by_cases e : j = k
        · subst e; exact h
        · exact HALL.out j (by omega)
      generalize leastN.getD k 0 = lo at *
      generalize mostN.getD k 0 = hi at *
      generalize x k = v at *
      by_cases h1 : v < (lo : Int)
      · have hno : ¬ okI x := fun h => by have := HOK.out h; omega
        go_wp2
        go_quiet (first
          | (go_at_call 68; refine Calls.quiet_of_same (HL.out _))
          | (go_at_call 69; refine Calls.quiet_of_same (HM.out _)))
        go_wp2
        go_ret2
        exact ⟨⟨k, by first | rfl | (rw [if_neg hno]; rfl)⟩, below_drewN' hbT nq⟩
      · by_cases h2 : v > (hi : Int)
        · have hno : ¬ okI x := fun h => by have := HOK.out h; omega
          go_wp2
          go_quiet (first
            | (go_at_call 68; refine Calls.quiet_of_same (HL.out _))
            | (go_at_call 69; refine Calls.quiet_of_same (HM.out _)))
          go_wp2
          go_ret2
          exact ⟨⟨k, by first | rfl | (rw [if_neg hno]; rfl)⟩, below_drewN' hbT nq⟩
        · have hnx := Go.Lib.hid (HNX.out (by omega))
          go_wp2
          go_quiet (first
            | (go_at_call 68; refine Calls.quiet_of_same (HL.out _))
            | (go_at_call 69; refine Calls.quiet_of_same (HM.out _)))
          go_wp2
          exact ⟨⟨k + 1, by omega, by go_num, below_drewN' hbw nq, hnx.out⟩, by simp [intOf]; omega⟩
    · have s4 : ((k : Int) < 13) = False := by simp; omega
      have hyes : okI x := fun i hi => HALL.out i (by omega)
      go_wp2
      go_ret2
      exact ⟨⟨0, by first | rfl | (rw [if_pos hyes]; rfl)⟩, hbT⟩
end Go.Proofs.Ytlbjjooiiikmjaa

