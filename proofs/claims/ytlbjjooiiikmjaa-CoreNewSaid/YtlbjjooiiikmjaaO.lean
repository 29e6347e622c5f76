/- The cells: cell.New, cell.Of; a head as a word. -/
import Derived.Test.YtlbjjooiiikmjaaW3
import Derived.Test.YtlbjjooiiikmjaaN2
import Derived.Test.YtlbjjooiiikmjaaK
import Derived.Laws.MakeOwn
namespace Go.Proofs.Ytlbjjooiiikmjaa
open Go.RowKit
set_option maxRecDepth 100000
set_option linter.unusedVariables false

theorem madeCells_one (z : Value) (n i : Nat) (h : i < n) : (madeCells #[z] n)[i]? = some z := by
  unfold madeCells
  simp [h, Nat.mod_one]

theorem cell_made {w : World} {z : Value} {n : Nat} {e : TypeId} {i : Nat} (h : i < n) : (w.alloc (.cells (madeCells #[z] n) e)).cell? ⟨w.heap.size, i, none⟩ = some z := by
  rw [World.cell?_alloc_new]
  exact madeCells_one z n i h
theorem frozen_made {w : World} {z : Value} {n : Nat} {e : TypeId} {i : Nat} : (w.alloc (.cells (madeCells #[z] n) e)).frozen? ⟨w.heap.size, i, none⟩ = false := by
  exact World.frozen?_alloc_new _ _ _ _

set_option maxHeartbeats 400000 in
theorem make_cells (n : Nat) (h1 : n ≤ 1048576) (w : World) :
    (Instr.makeSlice 89 (.int .i64 n) (.int .i64 n)).run Try.prog w = .ok (.slice (some ⟨w.heap.size, 0, none⟩) n n) (w.alloc (.cells (madeCells #[.int .u64 0] n) 110)) := by
  have hz : (Try.prog.info? 110).map (fun i => (i.zero, i.size, i.bytes)) = some (some (.agg #[.int .u64 0]), 1, 8) := by kernel_rfl
  cases hi : Try.prog.info? 110 with
  | none => rw [hi] at hz; cases hz
  | some i => ?_
  rw [hi] at hz
  simp at hz
  obtain ⟨z1, z2, z3⟩ := hz
  have := run_make (P := Try.prog) w 89 110 i _ (by kernel_rfl) hi z1 .i64 .i64 n n (by omega) (by omega) (by rw [z3]; omega) (by omega)
  rw [this]
  simp [z2, Value.cells]

set_option maxHeartbeats 400000 in
theorem cell_new (n : Nat) (h0 : 1 ≤ n) (h1 : n ≤ 1048576) (w : World) :
    Calls Try.prog 95 #[.int .i64 n] w fun e w' => e = .returned (.tuple #[.pointer (some ⟨w.heap.size + 1, 0, none⟩), .int .i64 0]) ∧
      w' = (w.alloc (.cells (madeCells #[.int .u64 0] n) 110)).alloc (.cells #[.slice (some ⟨w.heap.size, 0, none⟩) n n, .int .i64 0] 96) := by
  have hmk := make_cells n h1
  go_enter Try.func95, Try.ntmps95
  go_wp2
  go_ret2
  exact ⟨rfl, rfl⟩
/-- What the round finds: the cells ahead of k are laid. -/
structure OfAt (w : World) (n : Nat) (m : Nat → Nat) (k : Nat) (W : World) : Prop where
  bl : Below w.heap.size w W
  sz : W.heap.size = w.heap.size + 2
  a0 : W.cell? ⟨w.heap.size + 1, 0, none⟩ = some (.slice (some ⟨w.heap.size, 0, none⟩) n n)
  a1 : W.cell? ⟨w.heap.size + 1, 1, none⟩ = some (.int .i64 0)
  af : W.frozen? ⟨w.heap.size + 1, 1, none⟩ = false
  c0 : ∀ i, i < n → W.cell? ⟨w.heap.size, i, none⟩ = some (.int .u64 (if i < k then m i else 0 : Nat))
  cf : ∀ i, i < n → W.frozen? ⟨w.heap.size, i, none⟩ = false
theorem OfAt.start (w : World) (n : Nat) (m : Nat → Nat) : OfAt w n m 0 ((w.alloc (.cells (madeCells #[.int .u64 0] n) 110)).alloc (.cells #[.slice (some ⟨w.heap.size, 0, none⟩) n n, .int .i64 0] 96)) := by
  refine ⟨((Below.refl _ _).alloc (Nat.le_refl _) _).alloc (by simp) _, by simp, ?_, ?_, ?_, ?_, ?_⟩
  · simp
  · simp
  · simp
  · intro i hi
    have h := cell_made (w := w) (z := .int .u64 0) (e := 110) hi
    simp only [Nat.not_lt_zero, if_false]
    exact below_cell ((Below.refl _ _).alloc (Nat.le_refl _) _) h
  · intro i hi
    have h := cell_made (w := w) (z := .int .u64 0) (e := 110) hi
    exact (((Below.refl _ (w.alloc (.cells (madeCells #[.int .u64 0] n) 110))).alloc (Nat.le_refl _) _).frozen (cell_lt h)).trans frozen_made
theorem OfAt.step {w W : World} {n : Nat} {m : Nat → Nat} {k : Nat} (h : OfAt w n m k W) (hk : k < n) : OfAt w n m (k + 1) (W.setCell ⟨w.heap.size, k, none⟩ (.int .u64 (m k))) := by
  refine ⟨h.bl.setCell (Nat.le_refl _) _, by rw [← h.sz]; simp, ?_, ?_, ?_, ?_, ?_⟩
  · exact (World.cell?_setCell_other _ _ _ _ (by simp)).trans h.a0
  · exact (World.cell?_setCell_other _ _ _ _ (by simp)).trans h.a1
  · rw [World.frozen?_setCell]; exact h.af
  · intro i hi
    by_cases e : i = k
    · subst e
      refine (World.cell?_setCell_same _ _ _ (h.c0 i hi)).trans ?_
      simp
    · refine (World.cell?_setCell_other _ _ _ _ (by first | (simp; done) | (intro x; simp at x; omega))).trans ?_
      rw [h.c0 i hi]
      have : (i < k + 1) = (i < k) := by apply propext; omega
      simp only [this]
  · intro i hi; rw [World.frozen?_setCell]; exact h.cf i hi

set_option maxHeartbeats 1000000 in
theorem cell_of (n b cap : Nat) (m : Nat → Nat) (h0 : 1 ≤ n) (h1 : n ≤ 1048576) (w : World) (hc : ∀ i, i < n → w.cell? ⟨b, i, none⟩ = some (.int .u64 (m i))) :
    Calls Try.prog 75 #[.slice (some ⟨b, 0, none⟩) n cap] w fun e w' => e = .returned (.tuple #[.pointer (some ⟨w.heap.size + 1, 0, none⟩), .int .i64 0]) ∧ OfAt w n m n w' := by
  have HB := Go.Lib.hid (hc 0 h0)
  have HC := Go.Lib.hid hc
  clear hc
  go_enter Try.func75, Try.ntmps75
  go_wp2_with fail
  refine (cell_new n h0 h1 w).mono ?_
  rintro e w' ⟨rfl, rfl⟩
  have HS := OfAt.start w n m
  generalize ((w.alloc (.cells (madeCells #[.int .u64 0] n) 110)).alloc (.cells #[.slice (some ⟨w.heap.size, 0, none⟩) n n, .int .i64 0] 96)) = W0 at *
  go_wp2
  go_loopw [6, 7, 19] (fun _ _ i wr => ∃ k : Nat, k ≤ n ∧ i = .int .i64 k ∧ OfAt w n m k wr) (fun _ _ i _ => n - (intOf i).toNat)
  case atStart => exact ⟨0, Nat.zero_le _, rfl, HS⟩
  case round =>
    obtain ⟨k, hk, rfl, hat⟩ := hrel
    have HAT := Go.Lib.hid hat
    by_cases hlt : k < n
    · have e1 := bcell hat.bl (HC.out k hlt) (cell_lt (HC.out k hlt))
      have e2 := hat.c0 k hlt
      have e3 := hat.cf k hlt
      have e4 := hat.a0
      clear hat HS
      go_wp2_with (go_at_call 36; refine (u64_store _ _ _ _ _ e2 e3).mono ?_; rintro e w' ⟨rfl, rfl⟩)
      go_roundw
      case rel => exact ⟨k + 1, by omega, by go_num, HAT.out.step hlt⟩
      case measure => simp [intOf]; omega
    · clear hat HS
      go_wp2
      go_ret2
      have hk' : k = n := by omega
      subst hk'
      exact ⟨rfl, HAT.out⟩
set_option maxHeartbeats 1000000 in
theorem word_Head (count index : Int) (w : World) (h0 : count < 9223372036854775808) (h1 : -1 ≤ index) (h2 : index < 4294967295) :
    Calls Try.prog 73 #[.agg #[.int .i64 count, .int .i64 index]] w fun e w' => e = .returned (.tuple #[.int .u64 (packed [32, 32] [count, index + 1]).1, .int .i64 (packed [32, 32] [count, index + 1]).2]) ∧ Below w.heap.size w w' := by
  go_enter Try.func73, Try.ntmps73
  go_wp2_with fail
  refine (pack_any [32, 32] [count, index + 1] _ _ _ _ _ rfl (by decide) (by decide) (by decide) (by intro j hj; match j, hj with | 0, _ => exact h0 | 1, _ => exact (by show index + 1 < _; omega)) (by intro j hj; match j, hj with | 0, _ => go_simp | 1, _ => go_simp) (by intro j hj; match j, hj with | 0, _ => go_simp | 1, _ => go_simp)).mono ?_
  rintro e w' ⟨rfl, rfl⟩
  go_wp2
  go_ret2
  refine ⟨rfl, ?_⟩
  exact (((Below.refl _ _).alloc (Nat.le_refl _) _).alloc (by simp) _).alloc (by simp; omega) _
end Go.Proofs.Ytlbjjooiiikmjaa

