/- The document's configurations: which may be. -/
import Derived.Test.YtdemhabgaimnmaaGreatDoorJseh
namespace Go.Proofs.YtdemhabgaimnmaaGreatDoor
open Go.RowKit
set_option maxRecDepth 100000
set_option linter.unusedVariables false

def leastN : List Nat := [1, 1, 1, 1, 1, 0, 0, 0, 1, 1, 1, 0, 0]
def mostN : List Nat := [64, 8, 6, 4096, 8192, 1073741823, 4294967295, 256, 1073741823, 1073741823, 1073741823, 1073741823, 31]
set_option maxHeartbeats 1000000 in
theorem ref_least (i : Nat) (hi : i < 13) (w : World) : Calls Tryz.prog 55 #[.int .i64 i] w fun e w' => e = .returned (.int .i64 (leastN.getD i 0 : Nat)) ∧ w' = w := by
  match i, hi with
  | 0, _ | 1, _ | 2, _ | 3, _ | 4, _ | 5, _ | 6, _ | 7, _ | 8, _ | 9, _ | 10, _ | 11, _ | 12, _ =>
    go_enter Tryz.func55, Tryz.ntmps55
    go_wp2
    go_ret
    exact ⟨rfl, rfl⟩
set_option maxHeartbeats 1000000 in
theorem ref_most (i : Nat) (hi : i < 13) (w : World) : Calls Tryz.prog 56 #[.int .i64 i] w fun e w' => e = .returned (.int .i64 (mostN.getD i 0 : Nat)) ∧ w' = w := by
  match i, hi with
  | 0, _ | 1, _ | 2, _ | 3, _ | 4, _ | 5, _ | 6, _ | 7, _ | 8, _ | 9, _ | 10, _ | 11, _ | 12, _ =>
    go_enter Tryz.func56, Tryz.ntmps56
    go_wp2
    go_ret
    exact ⟨rfl, rfl⟩
theorem below_drewN' {n : Nat} {w W : World} (hb : Below n w W) (q : Nat) : Below n w (W.drewN q) := ⟨hb.os, hb.tape, hb.output, hb.size, hb.block⟩
def okI (x : Nat → Int) : Prop := ∀ i, i < 13 → (leastN.getD i 0 : Int) ≤ x i ∧ x i ≤ (mostN.getD i 0 : Int)
instance (x : Nat → Int) : Decidable (okI x) := by unfold okI; infer_instance
set_option maxHeartbeats 2000000 in
theorem ref_Check (x : Nat → Int) (w : World) : Calls Tryz.prog 37 #[.agg #[.int .i64 (x 0), .int .i64 (x 1), .int .i64 (x 2), .int .i64 (x 3), .int .i64 (x 4), .int .i64 (x 5), .int .i64 (x 6), .int .i64 (x 7), .int .i64 (x 8), .int .i64 (x 9), .int .i64 (x 10), .int .i64 (x 11), .int .i64 (x 12)]] w fun e w' => ∃ a, e = .returned (.tuple #[.int .i64 a, .int .i64 (if okI x then 0 else 7)]) ∧ Below w.heap.size w w' := by
  have hc : ∀ k, k < 13 → (w.alloc (.cells #[.int .i64 (x 0), .int .i64 (x 1), .int .i64 (x 2), .int .i64 (x 3), .int .i64 (x 4), .int .i64 (x 5), .int .i64 (x 6), .int .i64 (x 7), .int .i64 (x 8), .int .i64 (x 9), .int .i64 (x 10), .int .i64 (x 11), .int .i64 (x 12)] 23)).cell? ⟨w.heap.size, k, none⟩ = some (.int .i64 (x k)) := by
    intro k hk
    rw [World.cell?_alloc_new]
    match k, hk with
    | 0, _ | 1, _ | 2, _ | 3, _ | 4, _ | 5, _ | 6, _ | 7, _ | 8, _ | 9, _ | 10, _ | 11, _ | 12, _ => rfl
  have hb : Below w.heap.size w (w.alloc (.cells #[.int .i64 (x 0), .int .i64 (x 1), .int .i64 (x 2), .int .i64 (x 3), .int .i64 (x 4), .int .i64 (x 5), .int .i64 (x 6), .int .i64 (x 7), .int .i64 (x 8), .int .i64 (x 9), .int .i64 (x 10), .int .i64 (x 11), .int .i64 (x 12)] 23)) := (Below.refl _ _).alloc (Nat.le_refl _) _
  have HC := Go.Lib.hid hc
  clear hc
  go_enter Tryz.func37, Tryz.ntmps37
  go_wp2
  generalize (w.alloc (.cells #[.int .i64 (x 0), .int .i64 (x 1), .int .i64 (x 2), .int .i64 (x 3), .int .i64 (x 4), .int .i64 (x 5), .int .i64 (x 6), .int .i64 (x 7), .int .i64 (x 8), .int .i64 (x 9), .int .i64 (x 10), .int .i64 (x 11), .int .i64 (x 12)] 23)) = W at *
  generalize hbx : w.heap.size = bx at *
  go_loopw [4] (fun i wr => ∃ k : Nat, k ≤ 13 ∧ i = .int .i64 k ∧ Below W.heap.size W wr ∧ ∀ j, j < k → (leastN.getD j 0 : Int) ≤ x j ∧ x j ≤ (mostN.getD j 0 : Int)) (fun i _ => 13 - (intOf i).toNat)
  case atStart => exact ⟨0, Nat.zero_le _, rfl, Below.refl _ _, fun j hj => absurd hj (by omega)⟩
  case round =>
    obtain ⟨k, hk, rfl, hbw, hall⟩ := hrel
    have hbT := hb.trans (hbw.mono (hbx ▸ hb.size))
    have HALL := Go.Lib.hid hall
    clear hall
    by_cases hlt : k < 13
    · have e1 := below_cell hbw (HC.out k hlt)
      have b1 : (0 : Int) ≤ (k : Int) := by omega
      have b2 : (k : Int) < 13 := by omega
      have HL := Go.Lib.hid (ref_least k hlt)
      have HM := Go.Lib.hid (ref_most k hlt)
      have HOK : Hid (okI x → (leastN.getD k 0 : Int) ≤ x k ∧ x k ≤ (mostN.getD k 0 : Int)) := fun h => h k hlt
      have HNX : Hid ((leastN.getD k 0 : Int) ≤ x k ∧ x k ≤ (mostN.getD k 0 : Int) → ∀ j, j < k + 1 → (leastN.getD j 0 : Int) ≤ x j ∧ x j ≤ (mostN.getD j 0 : Int)) := fun h j hj => by
        by_cases e : j = k
        · subst e; exact h
        · exact HALL.out j (by omega)
      generalize leastN.getD k 0 = lo at *
      generalize mostN.getD k 0 = hi at *
      generalize x k = v at *
      by_cases h1 : v < (lo : Int)
      · have hno : ¬ okI x := fun h => by have := HOK.out h; omega
        go_wp2
        go_quiet (first
          | (go_at_call 55; refine Calls.quiet_of_same (HL.out _))
          | (go_at_call 56; refine Calls.quiet_of_same (HM.out _)))
        go_wp2
        go_ret2
        exact ⟨⟨k, by first | rfl | (rw [if_neg hno]; rfl)⟩, below_drewN' hbT nq⟩
      · by_cases h2 : v > (hi : Int)
        · have hno : ¬ okI x := fun h => by have := HOK.out h; omega
          go_wp2
          go_quiet (first
            | (go_at_call 55; refine Calls.quiet_of_same (HL.out _))
            | (go_at_call 56; refine Calls.quiet_of_same (HM.out _)))
          go_wp2
          go_ret2
          exact ⟨⟨k, by first | rfl | (rw [if_neg hno]; rfl)⟩, below_drewN' hbT nq⟩
        · have hnx := Go.Lib.hid (HNX.out (by omega))
          go_wp2
          go_quiet (first
            | (go_at_call 55; refine Calls.quiet_of_same (HL.out _))
            | (go_at_call 56; refine Calls.quiet_of_same (HM.out _)))
          go_wp2
          exact ⟨⟨k + 1, by omega, by go_num, below_drewN' hbw nq, hnx.out⟩, by simp [intOf]; omega⟩
    · have s4 : ((k : Int) < 13) = False := by simp; omega
      have hyes : okI x := fun i hi => HALL.out i (by omega)
      go_wp2
      go_ret2
      exact ⟨⟨0, by first | rfl | (rw [if_pos hyes]; rfl)⟩, hbT⟩
end Go.Proofs.YtdemhabgaimnmaaGreatDoor
/- The document's configurations: the small ones; a core of one. -/
namespace Go.Proofs.YtdemhabgaimnmaaGreatDoor
open Go.RowKit
set_option maxRecDepth 100000
set_option linter.unusedVariables false

set_option maxHeartbeats 1000000 in
theorem ref_Right (x : Nat → Int) (w : World) : Calls Tryz.prog 16 #[.agg #[.int .i64 (x 0), .int .i64 (x 1), .int .i64 (x 2), .int .i64 (x 3), .int .i64 (x 4), .int .i64 (x 5), .int .i64 (x 6), .int .i64 (x 7), .int .i64 (x 8), .int .i64 (x 9), .int .i64 (x 10), .int .i64 (x 11), .int .i64 (x 12)]] w fun e w' => e = .returned (.bool (decide (okI x))) ∧ Below w.heap.size w w' := by
  have hb : Below w.heap.size w (w.alloc (.cells #[.int .i64 (x 0), .int .i64 (x 1), .int .i64 (x 2), .int .i64 (x 3), .int .i64 (x 4), .int .i64 (x 5), .int .i64 (x 6), .int .i64 (x 7), .int .i64 (x 8), .int .i64 (x 9), .int .i64 (x 10), .int .i64 (x 11), .int .i64 (x 12)] 23)) := (Below.refl _ _).alloc (Nat.le_refl _) _
  have HC := Go.Lib.hid (ref_Check x)
  by_cases h : okI x
  · simp only [h, if_true] at HC
    rw [decide_eq_true h]
    clear h
    go_enter Tryz.func16, Tryz.ntmps16
    go_wp2_with fail
    refine (HC.out _).mono ?_
    rintro e w' ⟨a, rfl, hb1⟩
    have hb2 := hb.trans (hb1.mono hb.size)
    clear hb1 hb
    go_wp2
    go_ret
    exact ⟨rfl, hb2⟩
  · simp only [h, if_false] at HC
    rw [decide_eq_false h]
    clear h
    go_enter Tryz.func16, Tryz.ntmps16
    go_wp2_with fail
    refine (HC.out _).mono ?_
    rintro e w' ⟨a, rfl, hb1⟩
    have hb2 := hb.trans (hb1.mono hb.size)
    clear hb1 hb
    go_wp2
    go_ret
    exact ⟨rfl, hb2⟩
end Go.Proofs.YtdemhabgaimnmaaGreatDoor
/- A core of a small configuration. -/
namespace Go.Proofs.YtdemhabgaimnmaaGreatDoor
open Go.RowKit
set_option maxRecDepth 100000
set_option linter.unusedVariables false

def cfOf (x : Nat → Int) : Cf := ⟨(x 0).toNat, (x 1).toNat, (x 2).toNat, (x 3).toNat, (x 4).toNat, (x 5).toNat, (x 6).toNat, (x 7).toNat, (x 8).toNat, (x 9).toNat, (x 10).toNat, (x 11).toNat, (x 12).toNat⟩
theorem cfOf_ok {x : Nat → Int} (h : okI x) : (cfOf x).Ok := by
  have h0 := h 0 (by decide)
  have h1 := h 1 (by decide)
  have h2 := h 2 (by decide)
  have h3 := h 3 (by decide)
  have h4 := h 4 (by decide)
  have h5 := h 5 (by decide)
  have h6 := h 6 (by decide)
  have h7 := h 7 (by decide)
  have h8 := h 8 (by decide)
  have h9 := h 9 (by decide)
  have h10 := h 10 (by decide)
  have h11 := h 11 (by decide)
  have h12 := h 12 (by decide)
  simp [leastN, mostN] at h0 h1 h2 h3 h4 h5 h6 h7 h8 h9 h10 h11 h12
  constructor <;> simp only [cfOf] <;> omega
theorem cfOf_vals {x : Nat → Int} (h : okI x) : (cfOf x).vals = #[.int .i64 (x 0), .int .i64 (x 1), .int .i64 (x 2), .int .i64 (x 3), .int .i64 (x 4), .int .i64 (x 5), .int .i64 (x 6), .int .i64 (x 7), .int .i64 (x 8), .int .i64 (x 9), .int .i64 (x 10), .int .i64 (x 11), .int .i64 (x 12)] := by
  have h0 := h 0 (by decide)
  have h1 := h 1 (by decide)
  have h2 := h 2 (by decide)
  have h3 := h 3 (by decide)
  have h4 := h 4 (by decide)
  have h5 := h 5 (by decide)
  have h6 := h 6 (by decide)
  have h7 := h 7 (by decide)
  have h8 := h 8 (by decide)
  have h9 := h 9 (by decide)
  have h10 := h 10 (by decide)
  have h11 := h 11 (by decide)
  have h12 := h 12 (by decide)
  simp [leastN, mostN] at h0 h1 h2 h3 h4 h5 h6 h7 h8 h9 h10 h11 h12
  unfold Cf.vals cfOf
  have g0 : (((x 0).toNat : Nat) : Int) = x 0 := by omega
  have g1 : (((x 1).toNat : Nat) : Int) = x 1 := by omega
  have g2 : (((x 2).toNat : Nat) : Int) = x 2 := by omega
  have g3 : (((x 3).toNat : Nat) : Int) = x 3 := by omega
  have g4 : (((x 4).toNat : Nat) : Int) = x 4 := by omega
  have g5 : (((x 5).toNat : Nat) : Int) = x 5 := by omega
  have g6 : (((x 6).toNat : Nat) : Int) = x 6 := by omega
  have g7 : (((x 7).toNat : Nat) : Int) = x 7 := by omega
  have g8 : (((x 8).toNat : Nat) : Int) = x 8 := by omega
  have g9 : (((x 9).toNat : Nat) : Int) = x 9 := by omega
  have g10 : (((x 10).toNat : Nat) : Int) = x 10 := by omega
  have g11 : (((x 11).toNat : Nat) : Int) = x 11 := by omega
  have g12 : (((x 12).toNat : Nat) : Int) = x 12 := by omega
  simp only [g0, g1, g2, g3, g4, g5, g6, g7, g8, g9, g10, g11, g12]
end Go.Proofs.YtdemhabgaimnmaaGreatDoor
/- A configuration that may not be: no plan. -/
namespace Go.Proofs.YtdemhabgaimnmaaGreatDoor
open Go.RowKit
set_option maxRecDepth 100000
set_option linter.unusedVariables false

theorem okI_of {x : Nat → Int} (h : ∀ j, j < 13 → (loOf j : Int) ≤ x j ∧ x j ≤ (hiOf j : Int)) : okI x := by
  intro i hi
  have h1 := h i hi
  match i, hi, h1 with
  | 0, _, h1 => exact h1
  | 1, _, h1 => exact h1
  | 2, _, h1 => exact h1
  | 3, _, h1 => exact h1
  | 4, _, h1 => exact h1
  | 5, _, h1 => exact h1
  | 6, _, h1 => exact h1
  | 7, _, h1 => exact h1
  | 8, _, h1 => exact h1
  | 9, _, h1 => exact h1
  | 10, _, h1 => exact h1
  | 11, _, h1 => exact h1
  | 12, _, h1 => exact h1
set_option maxHeartbeats 1000000 in
theorem plan_listX (x : Nat → Int) (w : World) :
    Calls Tryz.prog 39 #[.agg #[.int .i64 (x 0), .int .i64 (x 1), .int .i64 (x 2), .int .i64 (x 3), .int .i64 (x 4), .int .i64 (x 5), .int .i64 (x 6), .int .i64 (x 7), .int .i64 (x 8), .int .i64 (x 9), .int .i64 (x 10), .int .i64 (x 11), .int .i64 (x 12)]] w fun e w' => e = .returned (.agg #[.int .i64 (x 0), .int .i64 (x 1), .int .i64 (x 2), .int .i64 (x 3), .int .i64 (x 4), .int .i64 (x 5), .int .i64 (x 6), .int .i64 (x 7), .int .i64 (x 8), .int .i64 (x 9), .int .i64 (x 10), .int .i64 (x 11), .int .i64 (x 12)]) ∧ Below w.heap.size w w' := by
  go_enter Tryz.func39, Tryz.ntmps39
  go_wp2
  refine bodyPost_ret (v := .agg #[.int .i64 (x 0), .int .i64 (x 1), .int .i64 (x 2), .int .i64 (x 3), .int .i64 (x 4), .int .i64 (x 5), .int .i64 (x 6), .int .i64 (x 7), .int .i64 (x 8), .int .i64 (x 9), .int .i64 (x 10), .int .i64 (x 11), .int .i64 (x 12)]) (by simp [results, Tryz.results39, go_sem]) rfl ⟨rfl, ?_⟩
  exact ((Below.refl _ _).alloc (Nat.le_refl _) _).alloc (by simp) _

theorem index_x (x : Nat → Int) (w : World) : ∀ k, k < 13 → (Instr.index 22 (.agg #[.int .i64 (x 0), .int .i64 (x 1), .int .i64 (x 2), .int .i64 (x 3), .int .i64 (x 4), .int .i64 (x 5), .int .i64 (x 6), .int .i64 (x 7), .int .i64 (x 8), .int .i64 (x 9), .int .i64 (x 10), .int .i64 (x 11), .int .i64 (x 12)]) (.int .i64 (k : Nat))).run Tryz.prog w = .ok (.int .i64 (x k)) w
  | 0, _ => by kernel_rfl
  | 1, _ => by kernel_rfl
  | 2, _ => by kernel_rfl
  | 3, _ => by kernel_rfl
  | 4, _ => by kernel_rfl
  | 5, _ => by kernel_rfl
  | 6, _ => by kernel_rfl
  | 7, _ => by kernel_rfl
  | 8, _ => by kernel_rfl
  | 9, _ => by kernel_rfl
  | 10, _ => by kernel_rfl
  | 11, _ => by kernel_rfl
  | 12, _ => by kernel_rfl
  | k + 13, h => absurd h (by omega)


set_option maxHeartbeats 1000000 in
theorem plan_check_no (x : Nat → Int) (hno : ¬ okI x) (w : World) :
    Calls Tryz.prog 24 #[.agg #[.int .i64 (x 0), .int .i64 (x 1), .int .i64 (x 2), .int .i64 (x 3), .int .i64 (x 4), .int .i64 (x 5), .int .i64 (x 6), .int .i64 (x 7), .int .i64 (x 8), .int .i64 (x 9), .int .i64 (x 10), .int .i64 (x 11), .int .i64 (x 12)]] w fun e w' => ∃ k : Int, e = .returned (.tuple #[.int .i64 k, .int .i64 7]) ∧ Below w.heap.size w w' := by
  have HO := Go.Lib.hid hno
  have HL := Go.Lib.hid (plan_listX x)
  have HI := Go.Lib.hid (index_x x)
  clear hno
  go_enter Tryz.func24, Tryz.ntmps24
  have hth : ((w.alloc (.cells #[.int .i64 (x 0), .int .i64 (x 1), .int .i64 (x 2), .int .i64 (x 3), .int .i64 (x 4), .int .i64 (x 5), .int .i64 (x 6), .int .i64 (x 7), .int .i64 (x 8), .int .i64 (x 9), .int .i64 (x 10), .int .i64 (x 11), .int .i64 (x 12)] 29)).alloc (.cells #[.int .i64 0, .int .i64 0, .int .i64 0, .int .i64 0, .int .i64 0, .int .i64 0, .int .i64 0, .int .i64 0, .int .i64 0, .int .i64 0, .int .i64 0, .int .i64 0, .int .i64 0, .int .i64 0, .int .i64 0, .int .i64 0, .int .i64 0, .int .i64 0, .int .i64 0, .int .i64 0, .int .i64 0, .int .i64 0, .int .i64 0, .int .i64 0, .int .i64 0, .int .i64 0] 99)).there (w.heap.size + 1) 0 26 := by
    have h := there_alloc_new (w.alloc (.cells #[.int .i64 (x 0), .int .i64 (x 1), .int .i64 (x 2), .int .i64 (x 3), .int .i64 (x 4), .int .i64 (x 5), .int .i64 (x 6), .int .i64 (x 7), .int .i64 (x 8), .int .i64 (x 9), .int .i64 (x 10), .int .i64 (x 11), .int .i64 (x 12)] 29)) #[.int .i64 0, .int .i64 0, .int .i64 0, .int .i64 0, .int .i64 0, .int .i64 0, .int .i64 0, .int .i64 0, .int .i64 0, .int .i64 0, .int .i64 0, .int .i64 0, .int .i64 0, .int .i64 0, .int .i64 0, .int .i64 0, .int .i64 0, .int .i64 0, .int .i64 0, .int .i64 0, .int .i64 0, .int .i64 0, .int .i64 0, .int .i64 0, .int .i64 0, .int .i64 0] 99 26 rfl
    simpa using h
  have HTH := Go.Lib.hid hth
  clear hth
  go_wp2_with (first
    | (refine wpList_value (o := ⟨some 20, _, _, _, _, _⟩) rfl (.agg spanVals.toArray) (by kernel_rfl) ?_)
    | (refine wpList_store_mid (op := ⟨none, .store 99 _ _, _, _, _, _⟩) rfl 99 (.tmp 4) (.tmp 20) rfl (w.heap.size + 1) 0 spanVals.toArray rfl rfl HTH.out (by kernel_rfl) (by kernel_rfl) ?_; refine Hid.out ?_))
  have hbW : Below w.heap.size w (((w.alloc (.cells #[.int .i64 (x 0), .int .i64 (x 1), .int .i64 (x 2), .int .i64 (x 3), .int .i64 (x 4), .int .i64 (x 5), .int .i64 (x 6), .int .i64 (x 7), .int .i64 (x 8), .int .i64 (x 9), .int .i64 (x 10), .int .i64 (x 11), .int .i64 (x 12)] 29)).alloc (.cells #[.int .i64 0, .int .i64 0, .int .i64 0, .int .i64 0, .int .i64 0, .int .i64 0, .int .i64 0, .int .i64 0, .int .i64 0, .int .i64 0, .int .i64 0, .int .i64 0, .int .i64 0, .int .i64 0, .int .i64 0, .int .i64 0, .int .i64 0, .int .i64 0, .int .i64 0, .int .i64 0, .int .i64 0, .int .i64 0, .int .i64 0, .int .i64 0, .int .i64 0, .int .i64 0] 99)).setCells (w.heap.size + 1) 0 spanVals) := below_setCells _ (by omega) _ _ _ (((Below.refl _ w).alloc (Nat.le_refl _) _).alloc (by simp) _)
  have hr : (((w.alloc (.cells #[.int .i64 (x 0), .int .i64 (x 1), .int .i64 (x 2), .int .i64 (x 3), .int .i64 (x 4), .int .i64 (x 5), .int .i64 (x 6), .int .i64 (x 7), .int .i64 (x 8), .int .i64 (x 9), .int .i64 (x 10), .int .i64 (x 11), .int .i64 (x 12)] 29)).alloc (.cells #[.int .i64 0, .int .i64 0, .int .i64 0, .int .i64 0, .int .i64 0, .int .i64 0, .int .i64 0, .int .i64 0, .int .i64 0, .int .i64 0, .int .i64 0, .int .i64 0, .int .i64 0, .int .i64 0, .int .i64 0, .int .i64 0, .int .i64 0, .int .i64 0, .int .i64 0, .int .i64 0, .int .i64 0, .int .i64 0, .int .i64 0, .int .i64 0, .int .i64 0, .int .i64 0] 99)).setCells (w.heap.size + 1) 0 spanVals).rangeAt (w.heap.size + 1) 0 spanVals := World.rangeAt_setCells_same _ _ _ _ HTH.out
  have hsz : (((w.alloc (.cells #[.int .i64 (x 0), .int .i64 (x 1), .int .i64 (x 2), .int .i64 (x 3), .int .i64 (x 4), .int .i64 (x 5), .int .i64 (x 6), .int .i64 (x 7), .int .i64 (x 8), .int .i64 (x 9), .int .i64 (x 10), .int .i64 (x 11), .int .i64 (x 12)] 29)).alloc (.cells #[.int .i64 0, .int .i64 0, .int .i64 0, .int .i64 0, .int .i64 0, .int .i64 0, .int .i64 0, .int .i64 0, .int .i64 0, .int .i64 0, .int .i64 0, .int .i64 0, .int .i64 0, .int .i64 0, .int .i64 0, .int .i64 0, .int .i64 0, .int .i64 0, .int .i64 0, .int .i64 0, .int .i64 0, .int .i64 0, .int .i64 0, .int .i64 0, .int .i64 0, .int .i64 0] 99)).setCells (w.heap.size + 1) 0 spanVals).heap.size = w.heap.size + 1 + 1 := by rw [size_setCells]; simp
  have hcv : ∀ o, (((w.alloc (.cells #[.int .i64 (x 0), .int .i64 (x 1), .int .i64 (x 2), .int .i64 (x 3), .int .i64 (x 4), .int .i64 (x 5), .int .i64 (x 6), .int .i64 (x 7), .int .i64 (x 8), .int .i64 (x 9), .int .i64 (x 10), .int .i64 (x 11), .int .i64 (x 12)] 29)).alloc (.cells #[.int .i64 0, .int .i64 0, .int .i64 0, .int .i64 0, .int .i64 0, .int .i64 0, .int .i64 0, .int .i64 0, .int .i64 0, .int .i64 0, .int .i64 0, .int .i64 0, .int .i64 0, .int .i64 0, .int .i64 0, .int .i64 0, .int .i64 0, .int .i64 0, .int .i64 0, .int .i64 0, .int .i64 0, .int .i64 0, .int .i64 0, .int .i64 0, .int .i64 0, .int .i64 0] 99)).setCells (w.heap.size + 1) 0 spanVals).cell? ⟨w.heap.size, o, none⟩ = ((w.alloc (.cells #[.int .i64 (x 0), .int .i64 (x 1), .int .i64 (x 2), .int .i64 (x 3), .int .i64 (x 4), .int .i64 (x 5), .int .i64 (x 6), .int .i64 (x 7), .int .i64 (x 8), .int .i64 (x 9), .int .i64 (x 10), .int .i64 (x 11), .int .i64 (x 12)] 29)).alloc (.cells #[.int .i64 0, .int .i64 0, .int .i64 0, .int .i64 0, .int .i64 0, .int .i64 0, .int .i64 0, .int .i64 0, .int .i64 0, .int .i64 0, .int .i64 0, .int .i64 0, .int .i64 0, .int .i64 0, .int .i64 0, .int .i64 0, .int .i64 0, .int .i64 0, .int .i64 0, .int .i64 0, .int .i64 0, .int .i64 0, .int .i64 0, .int .i64 0, .int .i64 0, .int .i64 0] 99)).cell? ⟨w.heap.size, o, none⟩ := fun o => World.cell?_setCells_out _ _ _ _ _ (by intro h; simp at h)
  have q0 : (((w.alloc (.cells #[.int .i64 (x 0), .int .i64 (x 1), .int .i64 (x 2), .int .i64 (x 3), .int .i64 (x 4), .int .i64 (x 5), .int .i64 (x 6), .int .i64 (x 7), .int .i64 (x 8), .int .i64 (x 9), .int .i64 (x 10), .int .i64 (x 11), .int .i64 (x 12)] 29)).alloc (.cells #[.int .i64 0, .int .i64 0, .int .i64 0, .int .i64 0, .int .i64 0, .int .i64 0, .int .i64 0, .int .i64 0, .int .i64 0, .int .i64 0, .int .i64 0, .int .i64 0, .int .i64 0, .int .i64 0, .int .i64 0, .int .i64 0, .int .i64 0, .int .i64 0, .int .i64 0, .int .i64 0, .int .i64 0, .int .i64 0, .int .i64 0, .int .i64 0, .int .i64 0, .int .i64 0] 99)).setCells (w.heap.size + 1) 0 spanVals).cell? ⟨w.heap.size, 0, none⟩ = some (.int .i64 (x 0)) := by rw [hcv]; go_simp
  have q1 : (((w.alloc (.cells #[.int .i64 (x 0), .int .i64 (x 1), .int .i64 (x 2), .int .i64 (x 3), .int .i64 (x 4), .int .i64 (x 5), .int .i64 (x 6), .int .i64 (x 7), .int .i64 (x 8), .int .i64 (x 9), .int .i64 (x 10), .int .i64 (x 11), .int .i64 (x 12)] 29)).alloc (.cells #[.int .i64 0, .int .i64 0, .int .i64 0, .int .i64 0, .int .i64 0, .int .i64 0, .int .i64 0, .int .i64 0, .int .i64 0, .int .i64 0, .int .i64 0, .int .i64 0, .int .i64 0, .int .i64 0, .int .i64 0, .int .i64 0, .int .i64 0, .int .i64 0, .int .i64 0, .int .i64 0, .int .i64 0, .int .i64 0, .int .i64 0, .int .i64 0, .int .i64 0, .int .i64 0] 99)).setCells (w.heap.size + 1) 0 spanVals).cell? ⟨w.heap.size, 1, none⟩ = some (.int .i64 (x 1)) := by rw [hcv]; go_simp
  have q2 : (((w.alloc (.cells #[.int .i64 (x 0), .int .i64 (x 1), .int .i64 (x 2), .int .i64 (x 3), .int .i64 (x 4), .int .i64 (x 5), .int .i64 (x 6), .int .i64 (x 7), .int .i64 (x 8), .int .i64 (x 9), .int .i64 (x 10), .int .i64 (x 11), .int .i64 (x 12)] 29)).alloc (.cells #[.int .i64 0, .int .i64 0, .int .i64 0, .int .i64 0, .int .i64 0, .int .i64 0, .int .i64 0, .int .i64 0, .int .i64 0, .int .i64 0, .int .i64 0, .int .i64 0, .int .i64 0, .int .i64 0, .int .i64 0, .int .i64 0, .int .i64 0, .int .i64 0, .int .i64 0, .int .i64 0, .int .i64 0, .int .i64 0, .int .i64 0, .int .i64 0, .int .i64 0, .int .i64 0] 99)).setCells (w.heap.size + 1) 0 spanVals).cell? ⟨w.heap.size, 2, none⟩ = some (.int .i64 (x 2)) := by rw [hcv]; go_simp
  have q3 : (((w.alloc (.cells #[.int .i64 (x 0), .int .i64 (x 1), .int .i64 (x 2), .int .i64 (x 3), .int .i64 (x 4), .int .i64 (x 5), .int .i64 (x 6), .int .i64 (x 7), .int .i64 (x 8), .int .i64 (x 9), .int .i64 (x 10), .int .i64 (x 11), .int .i64 (x 12)] 29)).alloc (.cells #[.int .i64 0, .int .i64 0, .int .i64 0, .int .i64 0, .int .i64 0, .int .i64 0, .int .i64 0, .int .i64 0, .int .i64 0, .int .i64 0, .int .i64 0, .int .i64 0, .int .i64 0, .int .i64 0, .int .i64 0, .int .i64 0, .int .i64 0, .int .i64 0, .int .i64 0, .int .i64 0, .int .i64 0, .int .i64 0, .int .i64 0, .int .i64 0, .int .i64 0, .int .i64 0] 99)).setCells (w.heap.size + 1) 0 spanVals).cell? ⟨w.heap.size, 3, none⟩ = some (.int .i64 (x 3)) := by rw [hcv]; go_simp
  have q4 : (((w.alloc (.cells #[.int .i64 (x 0), .int .i64 (x 1), .int .i64 (x 2), .int .i64 (x 3), .int .i64 (x 4), .int .i64 (x 5), .int .i64 (x 6), .int .i64 (x 7), .int .i64 (x 8), .int .i64 (x 9), .int .i64 (x 10), .int .i64 (x 11), .int .i64 (x 12)] 29)).alloc (.cells #[.int .i64 0, .int .i64 0, .int .i64 0, .int .i64 0, .int .i64 0, .int .i64 0, .int .i64 0, .int .i64 0, .int .i64 0, .int .i64 0, .int .i64 0, .int .i64 0, .int .i64 0, .int .i64 0, .int .i64 0, .int .i64 0, .int .i64 0, .int .i64 0, .int .i64 0, .int .i64 0, .int .i64 0, .int .i64 0, .int .i64 0, .int .i64 0, .int .i64 0, .int .i64 0] 99)).setCells (w.heap.size + 1) 0 spanVals).cell? ⟨w.heap.size, 4, none⟩ = some (.int .i64 (x 4)) := by rw [hcv]; go_simp
  have q5 : (((w.alloc (.cells #[.int .i64 (x 0), .int .i64 (x 1), .int .i64 (x 2), .int .i64 (x 3), .int .i64 (x 4), .int .i64 (x 5), .int .i64 (x 6), .int .i64 (x 7), .int .i64 (x 8), .int .i64 (x 9), .int .i64 (x 10), .int .i64 (x 11), .int .i64 (x 12)] 29)).alloc (.cells #[.int .i64 0, .int .i64 0, .int .i64 0, .int .i64 0, .int .i64 0, .int .i64 0, .int .i64 0, .int .i64 0, .int .i64 0, .int .i64 0, .int .i64 0, .int .i64 0, .int .i64 0, .int .i64 0, .int .i64 0, .int .i64 0, .int .i64 0, .int .i64 0, .int .i64 0, .int .i64 0, .int .i64 0, .int .i64 0, .int .i64 0, .int .i64 0, .int .i64 0, .int .i64 0] 99)).setCells (w.heap.size + 1) 0 spanVals).cell? ⟨w.heap.size, 5, none⟩ = some (.int .i64 (x 5)) := by rw [hcv]; go_simp
  have q6 : (((w.alloc (.cells #[.int .i64 (x 0), .int .i64 (x 1), .int .i64 (x 2), .int .i64 (x 3), .int .i64 (x 4), .int .i64 (x 5), .int .i64 (x 6), .int .i64 (x 7), .int .i64 (x 8), .int .i64 (x 9), .int .i64 (x 10), .int .i64 (x 11), .int .i64 (x 12)] 29)).alloc (.cells #[.int .i64 0, .int .i64 0, .int .i64 0, .int .i64 0, .int .i64 0, .int .i64 0, .int .i64 0, .int .i64 0, .int .i64 0, .int .i64 0, .int .i64 0, .int .i64 0, .int .i64 0, .int .i64 0, .int .i64 0, .int .i64 0, .int .i64 0, .int .i64 0, .int .i64 0, .int .i64 0, .int .i64 0, .int .i64 0, .int .i64 0, .int .i64 0, .int .i64 0, .int .i64 0] 99)).setCells (w.heap.size + 1) 0 spanVals).cell? ⟨w.heap.size, 6, none⟩ = some (.int .i64 (x 6)) := by rw [hcv]; go_simp
  have q7 : (((w.alloc (.cells #[.int .i64 (x 0), .int .i64 (x 1), .int .i64 (x 2), .int .i64 (x 3), .int .i64 (x 4), .int .i64 (x 5), .int .i64 (x 6), .int .i64 (x 7), .int .i64 (x 8), .int .i64 (x 9), .int .i64 (x 10), .int .i64 (x 11), .int .i64 (x 12)] 29)).alloc (.cells #[.int .i64 0, .int .i64 0, .int .i64 0, .int .i64 0, .int .i64 0, .int .i64 0, .int .i64 0, .int .i64 0, .int .i64 0, .int .i64 0, .int .i64 0, .int .i64 0, .int .i64 0, .int .i64 0, .int .i64 0, .int .i64 0, .int .i64 0, .int .i64 0, .int .i64 0, .int .i64 0, .int .i64 0, .int .i64 0, .int .i64 0, .int .i64 0, .int .i64 0, .int .i64 0] 99)).setCells (w.heap.size + 1) 0 spanVals).cell? ⟨w.heap.size, 7, none⟩ = some (.int .i64 (x 7)) := by rw [hcv]; go_simp
  have q8 : (((w.alloc (.cells #[.int .i64 (x 0), .int .i64 (x 1), .int .i64 (x 2), .int .i64 (x 3), .int .i64 (x 4), .int .i64 (x 5), .int .i64 (x 6), .int .i64 (x 7), .int .i64 (x 8), .int .i64 (x 9), .int .i64 (x 10), .int .i64 (x 11), .int .i64 (x 12)] 29)).alloc (.cells #[.int .i64 0, .int .i64 0, .int .i64 0, .int .i64 0, .int .i64 0, .int .i64 0, .int .i64 0, .int .i64 0, .int .i64 0, .int .i64 0, .int .i64 0, .int .i64 0, .int .i64 0, .int .i64 0, .int .i64 0, .int .i64 0, .int .i64 0, .int .i64 0, .int .i64 0, .int .i64 0, .int .i64 0, .int .i64 0, .int .i64 0, .int .i64 0, .int .i64 0, .int .i64 0] 99)).setCells (w.heap.size + 1) 0 spanVals).cell? ⟨w.heap.size, 8, none⟩ = some (.int .i64 (x 8)) := by rw [hcv]; go_simp
  have q9 : (((w.alloc (.cells #[.int .i64 (x 0), .int .i64 (x 1), .int .i64 (x 2), .int .i64 (x 3), .int .i64 (x 4), .int .i64 (x 5), .int .i64 (x 6), .int .i64 (x 7), .int .i64 (x 8), .int .i64 (x 9), .int .i64 (x 10), .int .i64 (x 11), .int .i64 (x 12)] 29)).alloc (.cells #[.int .i64 0, .int .i64 0, .int .i64 0, .int .i64 0, .int .i64 0, .int .i64 0, .int .i64 0, .int .i64 0, .int .i64 0, .int .i64 0, .int .i64 0, .int .i64 0, .int .i64 0, .int .i64 0, .int .i64 0, .int .i64 0, .int .i64 0, .int .i64 0, .int .i64 0, .int .i64 0, .int .i64 0, .int .i64 0, .int .i64 0, .int .i64 0, .int .i64 0, .int .i64 0] 99)).setCells (w.heap.size + 1) 0 spanVals).cell? ⟨w.heap.size, 9, none⟩ = some (.int .i64 (x 9)) := by rw [hcv]; go_simp
  have q10 : (((w.alloc (.cells #[.int .i64 (x 0), .int .i64 (x 1), .int .i64 (x 2), .int .i64 (x 3), .int .i64 (x 4), .int .i64 (x 5), .int .i64 (x 6), .int .i64 (x 7), .int .i64 (x 8), .int .i64 (x 9), .int .i64 (x 10), .int .i64 (x 11), .int .i64 (x 12)] 29)).alloc (.cells #[.int .i64 0, .int .i64 0, .int .i64 0, .int .i64 0, .int .i64 0, .int .i64 0, .int .i64 0, .int .i64 0, .int .i64 0, .int .i64 0, .int .i64 0, .int .i64 0, .int .i64 0, .int .i64 0, .int .i64 0, .int .i64 0, .int .i64 0, .int .i64 0, .int .i64 0, .int .i64 0, .int .i64 0, .int .i64 0, .int .i64 0, .int .i64 0, .int .i64 0, .int .i64 0] 99)).setCells (w.heap.size + 1) 0 spanVals).cell? ⟨w.heap.size, 10, none⟩ = some (.int .i64 (x 10)) := by rw [hcv]; go_simp
  have q11 : (((w.alloc (.cells #[.int .i64 (x 0), .int .i64 (x 1), .int .i64 (x 2), .int .i64 (x 3), .int .i64 (x 4), .int .i64 (x 5), .int .i64 (x 6), .int .i64 (x 7), .int .i64 (x 8), .int .i64 (x 9), .int .i64 (x 10), .int .i64 (x 11), .int .i64 (x 12)] 29)).alloc (.cells #[.int .i64 0, .int .i64 0, .int .i64 0, .int .i64 0, .int .i64 0, .int .i64 0, .int .i64 0, .int .i64 0, .int .i64 0, .int .i64 0, .int .i64 0, .int .i64 0, .int .i64 0, .int .i64 0, .int .i64 0, .int .i64 0, .int .i64 0, .int .i64 0, .int .i64 0, .int .i64 0, .int .i64 0, .int .i64 0, .int .i64 0, .int .i64 0, .int .i64 0, .int .i64 0] 99)).setCells (w.heap.size + 1) 0 spanVals).cell? ⟨w.heap.size, 11, none⟩ = some (.int .i64 (x 11)) := by rw [hcv]; go_simp
  have q12 : (((w.alloc (.cells #[.int .i64 (x 0), .int .i64 (x 1), .int .i64 (x 2), .int .i64 (x 3), .int .i64 (x 4), .int .i64 (x 5), .int .i64 (x 6), .int .i64 (x 7), .int .i64 (x 8), .int .i64 (x 9), .int .i64 (x 10), .int .i64 (x 11), .int .i64 (x 12)] 29)).alloc (.cells #[.int .i64 0, .int .i64 0, .int .i64 0, .int .i64 0, .int .i64 0, .int .i64 0, .int .i64 0, .int .i64 0, .int .i64 0, .int .i64 0, .int .i64 0, .int .i64 0, .int .i64 0, .int .i64 0, .int .i64 0, .int .i64 0, .int .i64 0, .int .i64 0, .int .i64 0, .int .i64 0, .int .i64 0, .int .i64 0, .int .i64 0, .int .i64 0, .int .i64 0, .int .i64 0] 99)).setCells (w.heap.size + 1) 0 spanVals).cell? ⟨w.heap.size, 12, none⟩ = some (.int .i64 (x 12)) := by rw [hcv]; go_simp
  generalize hW : World.setCells ((w.alloc (.cells #[.int .i64 (x 0), .int .i64 (x 1), .int .i64 (x 2), .int .i64 (x 3), .int .i64 (x 4), .int .i64 (x 5), .int .i64 (x 6), .int .i64 (x 7), .int .i64 (x 8), .int .i64 (x 9), .int .i64 (x 10), .int .i64 (x 11), .int .i64 (x 12)] 29)).alloc (.cells #[.int .i64 0, .int .i64 0, .int .i64 0, .int .i64 0, .int .i64 0, .int .i64 0, .int .i64 0, .int .i64 0, .int .i64 0, .int .i64 0, .int .i64 0, .int .i64 0, .int .i64 0, .int .i64 0, .int .i64 0, .int .i64 0, .int .i64 0, .int .i64 0, .int .i64 0, .int .i64 0, .int .i64 0, .int .i64 0, .int .i64 0, .int .i64 0, .int .i64 0, .int .i64 0] 99)) (w.heap.size + 1) 0 spanVals = W at hbW hr hsz hcv q0 q1 q2 q3 q4 q5 q6 q7 q8 q9 q10 q11 q12 ⊢
  clear hW hcv HTH
  unfold Hid
  go_wp2_with fail
  refine (HL.out _).mono ?_
  rintro e w1 ⟨rfl, hb⟩
  have HLO : Hid (∀ k, k < 13 → w1.cell? ⟨w.heap.size + 1, k * 2, none⟩ = some (.int .i64 (loOf k : Nat))) := fun k hk => below_cell hb (by have := hr (k * 2) _ (spanVals_lo k hk); rwa [Nat.zero_add] at this)
  have HHI : Hid (∀ k, k < 13 → w1.cell? ⟨w.heap.size + 1, k * 2 + 1, none⟩ = some (.int .i64 (hiOf k : Nat))) := fun k hk => below_cell hb (by have := hr (k * 2 + 1) _ (spanVals_hi k hk); rwa [Nat.zero_add] at this)
  have HB := Go.Lib.hid (hbW.trans (hb.mono (by omega)))
  clear hb hbW hr hsz q0 q1 q2 q3 q4 q5 q6 q7 q8 q9 q10 q11 q12
  go_wp2
  go_loop [23] (fun i => ∃ k : Nat, k ≤ 13 ∧ i = .int .i64 k ∧ ∀ j, j < k → (loOf j : Int) ≤ x j ∧ x j ≤ (hiOf j : Int)) (fun i => 13 - (intOf i).toNat)
  case atStart => exact ⟨0, by omega, rfl, fun j hj => absurd hj (Nat.not_lt_zero _)⟩
  case round =>
    obtain ⟨k, hk, rfl, hall⟩ := hrel
    have HALL := Go.Lib.hid hall
    clear hall
    by_cases hlt : k < 13
    · have e1 := HLO.out k hlt
      have e2 := HHI.out k hlt
      have e3 := HI.out w1 k hlt
      by_cases b1 : (loOf k : Int) ≤ x k
      · by_cases b2 : x k ≤ (hiOf k : Int)
        · have HK : Hid ((loOf k : Int) ≤ x k ∧ x k ≤ (hiOf k : Int)) := ⟨b1, b2⟩
          generalize hxk : x k = xk at *
          have HXK := Go.Lib.hid hxk
          generalize hlk : loOf k = lo at *
          have HLK := Go.Lib.hid hlk
          generalize hhk : hiOf k = hi at *
          have HHK := Go.Lib.hid hhk
          clear hxk hlk hhk
          go_wp2
          refine ⟨⟨k + 1, by omega, by go_num, fun j hj => ?_⟩, by simp [intOf]; omega⟩
          by_cases e : j = k
          · subst e; rw [HXK.out, HLK.out, HHK.out]; exact HK.out
          · exact HALL.out j (by omega)
        · generalize x k = xk at *
          generalize loOf k = lo at *
          generalize hiOf k = hi at *
          clear HALL HO
          go_wp2
          go_ret2
          exact ⟨⟨_, rfl⟩, HB.out⟩
      · generalize x k = xk at *
        generalize loOf k = lo at *
        generalize hiOf k = hi at *
        clear HALL HO
        go_wp2
        go_ret2
        exact ⟨⟨_, rfl⟩, HB.out⟩
    · obtain rfl : k = 13 := by omega
      exact absurd (okI_of HALL.out) HO.out

end Go.Proofs.YtdemhabgaimnmaaGreatDoor
