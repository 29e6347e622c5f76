/- A core of a small configuration. -/
import Derived.Test.YtgemjjpmoejgdaaGreatJoing
import Derived.Laws.EntriesVeiled
namespace Go.Proofs.YtgemjjpmoejgdaaGreat
open Go.RowKit
set_option maxRecDepth 100000
set_option linter.unusedVariables false

set_option maxHeartbeats 2000000 in
theorem law03_Of (x : Nat → Int) (w : World) : Calls Tryz.prog 78 #[.agg #[.int .i64 (x 0), .int .i64 (x 1), .int .i64 (x 2), .int .i64 (x 3), .int .i64 (x 4), .int .i64 (x 5), .int .i64 (x 6), .int .i64 (x 7), .int .i64 (x 8), .int .i64 (x 9), .int .i64 (x 10), .int .i64 (x 11), .int .i64 (x 12)]] w fun e w' => e = .returned (.agg #[.int .i64 (x 0), .int .i64 (x 1), .int .i64 (x 2), .int .i64 (x 3), .int .i64 (x 4), .int .i64 (x 5), .int .i64 (x 6), .int .i64 (x 7), .int .i64 (x 8), .int .i64 (x 9), .int .i64 (x 10), .int .i64 (x 11), .int .i64 (x 12)]) ∧ Below w.heap.size w w' := by
  have hb : Below w.heap.size w ((w.alloc (.cells #[.int .i64 (x 0), .int .i64 (x 1), .int .i64 (x 2), .int .i64 (x 3), .int .i64 (x 4), .int .i64 (x 5), .int .i64 (x 6), .int .i64 (x 7), .int .i64 (x 8), .int .i64 (x 9), .int .i64 (x 10), .int .i64 (x 11), .int .i64 (x 12)] 23)).alloc (.cells #[.int .i64 0, .int .i64 0, .int .i64 0, .int .i64 0, .int .i64 0, .int .i64 0, .int .i64 0, .int .i64 0, .int .i64 0, .int .i64 0, .int .i64 0, .int .i64 0, .int .i64 0] 126)) := ((Below.refl _ _).alloc (Nat.le_refl _) _).alloc (by simp) _
  have e0 : ((w.alloc (.cells #[.int .i64 (x 0), .int .i64 (x 1), .int .i64 (x 2), .int .i64 (x 3), .int .i64 (x 4), .int .i64 (x 5), .int .i64 (x 6), .int .i64 (x 7), .int .i64 (x 8), .int .i64 (x 9), .int .i64 (x 10), .int .i64 (x 11), .int .i64 (x 12)] 23)).alloc (.cells #[.int .i64 0, .int .i64 0, .int .i64 0, .int .i64 0, .int .i64 0, .int .i64 0, .int .i64 0, .int .i64 0, .int .i64 0, .int .i64 0, .int .i64 0, .int .i64 0, .int .i64 0] 126)).cell? ⟨w.heap.size, 0, none⟩ = some (.int .i64 (x 0)) := by go_simp
  have e1 : ((w.alloc (.cells #[.int .i64 (x 0), .int .i64 (x 1), .int .i64 (x 2), .int .i64 (x 3), .int .i64 (x 4), .int .i64 (x 5), .int .i64 (x 6), .int .i64 (x 7), .int .i64 (x 8), .int .i64 (x 9), .int .i64 (x 10), .int .i64 (x 11), .int .i64 (x 12)] 23)).alloc (.cells #[.int .i64 0, .int .i64 0, .int .i64 0, .int .i64 0, .int .i64 0, .int .i64 0, .int .i64 0, .int .i64 0, .int .i64 0, .int .i64 0, .int .i64 0, .int .i64 0, .int .i64 0] 126)).cell? ⟨w.heap.size, 1, none⟩ = some (.int .i64 (x 1)) := by go_simp
  have e2 : ((w.alloc (.cells #[.int .i64 (x 0), .int .i64 (x 1), .int .i64 (x 2), .int .i64 (x 3), .int .i64 (x 4), .int .i64 (x 5), .int .i64 (x 6), .int .i64 (x 7), .int .i64 (x 8), .int .i64 (x 9), .int .i64 (x 10), .int .i64 (x 11), .int .i64 (x 12)] 23)).alloc (.cells #[.int .i64 0, .int .i64 0, .int .i64 0, .int .i64 0, .int .i64 0, .int .i64 0, .int .i64 0, .int .i64 0, .int .i64 0, .int .i64 0, .int .i64 0, .int .i64 0, .int .i64 0] 126)).cell? ⟨w.heap.size, 2, none⟩ = some (.int .i64 (x 2)) := by go_simp
  have e3 : ((w.alloc (.cells #[.int .i64 (x 0), .int .i64 (x 1), .int .i64 (x 2), .int .i64 (x 3), .int .i64 (x 4), .int .i64 (x 5), .int .i64 (x 6), .int .i64 (x 7), .int .i64 (x 8), .int .i64 (x 9), .int .i64 (x 10), .int .i64 (x 11), .int .i64 (x 12)] 23)).alloc (.cells #[.int .i64 0, .int .i64 0, .int .i64 0, .int .i64 0, .int .i64 0, .int .i64 0, .int .i64 0, .int .i64 0, .int .i64 0, .int .i64 0, .int .i64 0, .int .i64 0, .int .i64 0] 126)).cell? ⟨w.heap.size, 3, none⟩ = some (.int .i64 (x 3)) := by go_simp
  have e4 : ((w.alloc (.cells #[.int .i64 (x 0), .int .i64 (x 1), .int .i64 (x 2), .int .i64 (x 3), .int .i64 (x 4), .int .i64 (x 5), .int .i64 (x 6), .int .i64 (x 7), .int .i64 (x 8), .int .i64 (x 9), .int .i64 (x 10), .int .i64 (x 11), .int .i64 (x 12)] 23)).alloc (.cells #[.int .i64 0, .int .i64 0, .int .i64 0, .int .i64 0, .int .i64 0, .int .i64 0, .int .i64 0, .int .i64 0, .int .i64 0, .int .i64 0, .int .i64 0, .int .i64 0, .int .i64 0] 126)).cell? ⟨w.heap.size, 4, none⟩ = some (.int .i64 (x 4)) := by go_simp
  have e5 : ((w.alloc (.cells #[.int .i64 (x 0), .int .i64 (x 1), .int .i64 (x 2), .int .i64 (x 3), .int .i64 (x 4), .int .i64 (x 5), .int .i64 (x 6), .int .i64 (x 7), .int .i64 (x 8), .int .i64 (x 9), .int .i64 (x 10), .int .i64 (x 11), .int .i64 (x 12)] 23)).alloc (.cells #[.int .i64 0, .int .i64 0, .int .i64 0, .int .i64 0, .int .i64 0, .int .i64 0, .int .i64 0, .int .i64 0, .int .i64 0, .int .i64 0, .int .i64 0, .int .i64 0, .int .i64 0] 126)).cell? ⟨w.heap.size, 5, none⟩ = some (.int .i64 (x 5)) := by go_simp
  have e6 : ((w.alloc (.cells #[.int .i64 (x 0), .int .i64 (x 1), .int .i64 (x 2), .int .i64 (x 3), .int .i64 (x 4), .int .i64 (x 5), .int .i64 (x 6), .int .i64 (x 7), .int .i64 (x 8), .int .i64 (x 9), .int .i64 (x 10), .int .i64 (x 11), .int .i64 (x 12)] 23)).alloc (.cells #[.int .i64 0, .int .i64 0, .int .i64 0, .int .i64 0, .int .i64 0, .int .i64 0, .int .i64 0, .int .i64 0, .int .i64 0, .int .i64 0, .int .i64 0, .int .i64 0, .int .i64 0] 126)).cell? ⟨w.heap.size, 6, none⟩ = some (.int .i64 (x 6)) := by go_simp
  have e7 : ((w.alloc (.cells #[.int .i64 (x 0), .int .i64 (x 1), .int .i64 (x 2), .int .i64 (x 3), .int .i64 (x 4), .int .i64 (x 5), .int .i64 (x 6), .int .i64 (x 7), .int .i64 (x 8), .int .i64 (x 9), .int .i64 (x 10), .int .i64 (x 11), .int .i64 (x 12)] 23)).alloc (.cells #[.int .i64 0, .int .i64 0, .int .i64 0, .int .i64 0, .int .i64 0, .int .i64 0, .int .i64 0, .int .i64 0, .int .i64 0, .int .i64 0, .int .i64 0, .int .i64 0, .int .i64 0] 126)).cell? ⟨w.heap.size, 7, none⟩ = some (.int .i64 (x 7)) := by go_simp
  have e8 : ((w.alloc (.cells #[.int .i64 (x 0), .int .i64 (x 1), .int .i64 (x 2), .int .i64 (x 3), .int .i64 (x 4), .int .i64 (x 5), .int .i64 (x 6), .int .i64 (x 7), .int .i64 (x 8), .int .i64 (x 9), .int .i64 (x 10), .int .i64 (x 11), .int .i64 (x 12)] 23)).alloc (.cells #[.int .i64 0, .int .i64 0, .int .i64 0, .int .i64 0, .int .i64 0, .int .i64 0, .int .i64 0, .int .i64 0, .int .i64 0, .int .i64 0, .int .i64 0, .int .i64 0, .int .i64 0] 126)).cell? ⟨w.heap.size, 8, none⟩ = some (.int .i64 (x 8)) := by go_simp
  have e9 : ((w.alloc (.cells #[.int .i64 (x 0), .int .i64 (x 1), .int .i64 (x 2), .int .i64 (x 3), .int .i64 (x 4), .int .i64 (x 5), .int .i64 (x 6), .int .i64 (x 7), .int .i64 (x 8), .int .i64 (x 9), .int .i64 (x 10), .int .i64 (x 11), .int .i64 (x 12)] 23)).alloc (.cells #[.int .i64 0, .int .i64 0, .int .i64 0, .int .i64 0, .int .i64 0, .int .i64 0, .int .i64 0, .int .i64 0, .int .i64 0, .int .i64 0, .int .i64 0, .int .i64 0, .int .i64 0] 126)).cell? ⟨w.heap.size, 9, none⟩ = some (.int .i64 (x 9)) := by go_simp
  have e10 : ((w.alloc (.cells #[.int .i64 (x 0), .int .i64 (x 1), .int .i64 (x 2), .int .i64 (x 3), .int .i64 (x 4), .int .i64 (x 5), .int .i64 (x 6), .int .i64 (x 7), .int .i64 (x 8), .int .i64 (x 9), .int .i64 (x 10), .int .i64 (x 11), .int .i64 (x 12)] 23)).alloc (.cells #[.int .i64 0, .int .i64 0, .int .i64 0, .int .i64 0, .int .i64 0, .int .i64 0, .int .i64 0, .int .i64 0, .int .i64 0, .int .i64 0, .int .i64 0, .int .i64 0, .int .i64 0] 126)).cell? ⟨w.heap.size, 10, none⟩ = some (.int .i64 (x 10)) := by go_simp
  have e11 : ((w.alloc (.cells #[.int .i64 (x 0), .int .i64 (x 1), .int .i64 (x 2), .int .i64 (x 3), .int .i64 (x 4), .int .i64 (x 5), .int .i64 (x 6), .int .i64 (x 7), .int .i64 (x 8), .int .i64 (x 9), .int .i64 (x 10), .int .i64 (x 11), .int .i64 (x 12)] 23)).alloc (.cells #[.int .i64 0, .int .i64 0, .int .i64 0, .int .i64 0, .int .i64 0, .int .i64 0, .int .i64 0, .int .i64 0, .int .i64 0, .int .i64 0, .int .i64 0, .int .i64 0, .int .i64 0] 126)).cell? ⟨w.heap.size, 11, none⟩ = some (.int .i64 (x 11)) := by go_simp
  have e12 : ((w.alloc (.cells #[.int .i64 (x 0), .int .i64 (x 1), .int .i64 (x 2), .int .i64 (x 3), .int .i64 (x 4), .int .i64 (x 5), .int .i64 (x 6), .int .i64 (x 7), .int .i64 (x 8), .int .i64 (x 9), .int .i64 (x 10), .int .i64 (x 11), .int .i64 (x 12)] 23)).alloc (.cells #[.int .i64 0, .int .i64 0, .int .i64 0, .int .i64 0, .int .i64 0, .int .i64 0, .int .i64 0, .int .i64 0, .int .i64 0, .int .i64 0, .int .i64 0, .int .i64 0, .int .i64 0] 126)).cell? ⟨w.heap.size, 12, none⟩ = some (.int .i64 (x 12)) := by go_simp
  go_enter Tryz.func78, Tryz.ntmps78
  go_wp2_with fail
  exact bodyPost_ret (v := .agg #[.int .i64 (x 0), .int .i64 (x 1), .int .i64 (x 2), .int .i64 (x 3), .int .i64 (x 4), .int .i64 (x 5), .int .i64 (x 6), .int .i64 (x 7), .int .i64 (x 8), .int .i64 (x 9), .int .i64 (x 10), .int .i64 (x 11), .int .i64 (x 12)]) (by simp [results, Tryz.results78, go_sem]) rfl ⟨rfl, ((Below.refl _ _).alloc (Nat.le_refl _) _).alloc (by simp) _⟩
def cfOf (x : Nat → Int) : Cf := ⟨(x 0).toNat, (x 1).toNat, (x 2).toNat, (x 3).toNat, (x 4).toNat, (x 5).toNat, (x 6).toNat, (x 7).toNat, (x 8).toNat, (x 9).toNat, (x 10).toNat, (x 11).toNat, (x 12).toNat⟩
theorem cfOf_ok {x : Nat → Int} (h : okI x) : (cfOf x).Ok := by
  have h0 := h 0 (by decide)
  have h1 := h 1 (by decide)
  have h2 := h 2 (by decide)
  have h3 := h 3 (by decide)
  have h4 := h 4 (by decide)
  have h5 := h 5 (by decide)
  have h6 := h 6 (by decide)
  have h7 := h 7 (by decide)
  have h8 := h 8 (by decide)
  have h9 := h 9 (by decide)
  have h10 := h 10 (by decide)
  have h11 := h 11 (by decide)
  have h12 := h 12 (by decide)
  simp [leastN, mostN] at h0 h1 h2 h3 h4 h5 h6 h7 h8 h9 h10 h11 h12
  constructor <;> simp only [cfOf] <;> omega
theorem cfOf_vals {x : Nat → Int} (h : okI x) : (cfOf x).vals = #[.int .i64 (x 0), .int .i64 (x 1), .int .i64 (x 2), .int .i64 (x 3), .int .i64 (x 4), .int .i64 (x 5), .int .i64 (x 6), .int .i64 (x 7), .int .i64 (x 8), .int .i64 (x 9), .int .i64 (x 10), .int .i64 (x 11), .int .i64 (x 12)] := by
  have h0 := h 0 (by decide)
  have h1 := h 1 (by decide)
  have h2 := h 2 (by decide)
  have h3 := h 3 (by decide)
  have h4 := h 4 (by decide)
  have h5 := h 5 (by decide)
  have h6 := h 6 (by decide)
  have h7 := h 7 (by decide)
  have h8 := h 8 (by decide)
  have h9 := h 9 (by decide)
  have h10 := h 10 (by decide)
  have h11 := h 11 (by decide)
  have h12 := h 12 (by decide)
  simp [leastN, mostN] at h0 h1 h2 h3 h4 h5 h6 h7 h8 h9 h10 h11 h12
  unfold Cf.vals cfOf
  have g0 : (((x 0).toNat : Nat) : Int) = x 0 := by omega
  have g1 : (((x 1).toNat : Nat) : Int) = x 1 := by omega
  have g2 : (((x 2).toNat : Nat) : Int) = x 2 := by omega
  have g3 : (((x 3).toNat : Nat) : Int) = x 3 := by omega
  have g4 : (((x 4).toNat : Nat) : Int) = x 4 := by omega
  have g5 : (((x 5).toNat : Nat) : Int) = x 5 := by omega
  have g6 : (((x 6).toNat : Nat) : Int) = x 6 := by omega
  have g7 : (((x 7).toNat : Nat) : Int) = x 7 := by omega
  have g8 : (((x 8).toNat : Nat) : Int) = x 8 := by omega
  have g9 : (((x 9).toNat : Nat) : Int) = x 9 := by omega
  have g10 : (((x 10).toNat : Nat) : Int) = x 10 := by omega
  have g11 : (((x 11).toNat : Nat) : Int) = x 11 := by omega
  have g12 : (((x 12).toNat : Nat) : Int) = x 12 := by omega
  simp only [g0, g1, g2, g3, g4, g5, g6, g7, g8, g9, g10, g11, g12]
set_option maxHeartbeats 4000000 in
theorem law15_Begin (x : Nat → Int) (h : smallI x) (w : World) : Calls Tryz.prog 13 #[.agg #[.int .i64 (x 0), .int .i64 (x 1), .int .i64 (x 2), .int .i64 (x 3), .int .i64 (x 4), .int .i64 (x 5), .int .i64 (x 6), .int .i64 (x 7), .int .i64 (x 8), .int .i64 (x 9), .int .i64 (x 10), .int .i64 (x 11), .int .i64 (x 12)]] w fun e w' => ∃ E L w0, e = .returned (.pointer (some ⟨E.k, 0, none⟩)) ∧ Below w.heap.size w w0 ∧ Born (cfOf x) w0 E L w' := by
  have hb : Below w.heap.size w (w.alloc (.cells #[.int .i64 (x 0), .int .i64 (x 1), .int .i64 (x 2), .int .i64 (x 3), .int .i64 (x 4), .int .i64 (x 5), .int .i64 (x 6), .int .i64 (x 7), .int .i64 (x 8), .int .i64 (x 9), .int .i64 (x 10), .int .i64 (x 11), .int .i64 (x 12)] 23)) := (Below.refl _ _).alloc (Nat.le_refl _) _
  have e0 : (w.alloc (.cells #[.int .i64 (x 0), .int .i64 (x 1), .int .i64 (x 2), .int .i64 (x 3), .int .i64 (x 4), .int .i64 (x 5), .int .i64 (x 6), .int .i64 (x 7), .int .i64 (x 8), .int .i64 (x 9), .int .i64 (x 10), .int .i64 (x 11), .int .i64 (x 12)] 23)).cell? ⟨w.heap.size, 0, none⟩ = some (.int .i64 (x 0)) := by go_simp
  have e1 : (w.alloc (.cells #[.int .i64 (x 0), .int .i64 (x 1), .int .i64 (x 2), .int .i64 (x 3), .int .i64 (x 4), .int .i64 (x 5), .int .i64 (x 6), .int .i64 (x 7), .int .i64 (x 8), .int .i64 (x 9), .int .i64 (x 10), .int .i64 (x 11), .int .i64 (x 12)] 23)).cell? ⟨w.heap.size, 1, none⟩ = some (.int .i64 (x 1)) := by go_simp
  have e2 : (w.alloc (.cells #[.int .i64 (x 0), .int .i64 (x 1), .int .i64 (x 2), .int .i64 (x 3), .int .i64 (x 4), .int .i64 (x 5), .int .i64 (x 6), .int .i64 (x 7), .int .i64 (x 8), .int .i64 (x 9), .int .i64 (x 10), .int .i64 (x 11), .int .i64 (x 12)] 23)).cell? ⟨w.heap.size, 2, none⟩ = some (.int .i64 (x 2)) := by go_simp
  have e3 : (w.alloc (.cells #[.int .i64 (x 0), .int .i64 (x 1), .int .i64 (x 2), .int .i64 (x 3), .int .i64 (x 4), .int .i64 (x 5), .int .i64 (x 6), .int .i64 (x 7), .int .i64 (x 8), .int .i64 (x 9), .int .i64 (x 10), .int .i64 (x 11), .int .i64 (x 12)] 23)).cell? ⟨w.heap.size, 3, none⟩ = some (.int .i64 (x 3)) := by go_simp
  have e4 : (w.alloc (.cells #[.int .i64 (x 0), .int .i64 (x 1), .int .i64 (x 2), .int .i64 (x 3), .int .i64 (x 4), .int .i64 (x 5), .int .i64 (x 6), .int .i64 (x 7), .int .i64 (x 8), .int .i64 (x 9), .int .i64 (x 10), .int .i64 (x 11), .int .i64 (x 12)] 23)).cell? ⟨w.heap.size, 4, none⟩ = some (.int .i64 (x 4)) := by go_simp
  have e5 : (w.alloc (.cells #[.int .i64 (x 0), .int .i64 (x 1), .int .i64 (x 2), .int .i64 (x 3), .int .i64 (x 4), .int .i64 (x 5), .int .i64 (x 6), .int .i64 (x 7), .int .i64 (x 8), .int .i64 (x 9), .int .i64 (x 10), .int .i64 (x 11), .int .i64 (x 12)] 23)).cell? ⟨w.heap.size, 5, none⟩ = some (.int .i64 (x 5)) := by go_simp
  have e6 : (w.alloc (.cells #[.int .i64 (x 0), .int .i64 (x 1), .int .i64 (x 2), .int .i64 (x 3), .int .i64 (x 4), .int .i64 (x 5), .int .i64 (x 6), .int .i64 (x 7), .int .i64 (x 8), .int .i64 (x 9), .int .i64 (x 10), .int .i64 (x 11), .int .i64 (x 12)] 23)).cell? ⟨w.heap.size, 6, none⟩ = some (.int .i64 (x 6)) := by go_simp
  have e7 : (w.alloc (.cells #[.int .i64 (x 0), .int .i64 (x 1), .int .i64 (x 2), .int .i64 (x 3), .int .i64 (x 4), .int .i64 (x 5), .int .i64 (x 6), .int .i64 (x 7), .int .i64 (x 8), .int .i64 (x 9), .int .i64 (x 10), .int .i64 (x 11), .int .i64 (x 12)] 23)).cell? ⟨w.heap.size, 7, none⟩ = some (.int .i64 (x 7)) := by go_simp
  have e8 : (w.alloc (.cells #[.int .i64 (x 0), .int .i64 (x 1), .int .i64 (x 2), .int .i64 (x 3), .int .i64 (x 4), .int .i64 (x 5), .int .i64 (x 6), .int .i64 (x 7), .int .i64 (x 8), .int .i64 (x 9), .int .i64 (x 10), .int .i64 (x 11), .int .i64 (x 12)] 23)).cell? ⟨w.heap.size, 8, none⟩ = some (.int .i64 (x 8)) := by go_simp
  have e9 : (w.alloc (.cells #[.int .i64 (x 0), .int .i64 (x 1), .int .i64 (x 2), .int .i64 (x 3), .int .i64 (x 4), .int .i64 (x 5), .int .i64 (x 6), .int .i64 (x 7), .int .i64 (x 8), .int .i64 (x 9), .int .i64 (x 10), .int .i64 (x 11), .int .i64 (x 12)] 23)).cell? ⟨w.heap.size, 9, none⟩ = some (.int .i64 (x 9)) := by go_simp
  have e10 : (w.alloc (.cells #[.int .i64 (x 0), .int .i64 (x 1), .int .i64 (x 2), .int .i64 (x 3), .int .i64 (x 4), .int .i64 (x 5), .int .i64 (x 6), .int .i64 (x 7), .int .i64 (x 8), .int .i64 (x 9), .int .i64 (x 10), .int .i64 (x 11), .int .i64 (x 12)] 23)).cell? ⟨w.heap.size, 10, none⟩ = some (.int .i64 (x 10)) := by go_simp
  have e11 : (w.alloc (.cells #[.int .i64 (x 0), .int .i64 (x 1), .int .i64 (x 2), .int .i64 (x 3), .int .i64 (x 4), .int .i64 (x 5), .int .i64 (x 6), .int .i64 (x 7), .int .i64 (x 8), .int .i64 (x 9), .int .i64 (x 10), .int .i64 (x 11), .int .i64 (x 12)] 23)).cell? ⟨w.heap.size, 11, none⟩ = some (.int .i64 (x 11)) := by go_simp
  have e12 : (w.alloc (.cells #[.int .i64 (x 0), .int .i64 (x 1), .int .i64 (x 2), .int .i64 (x 3), .int .i64 (x 4), .int .i64 (x 5), .int .i64 (x 6), .int .i64 (x 7), .int .i64 (x 8), .int .i64 (x 9), .int .i64 (x 10), .int .i64 (x 11), .int .i64 (x 12)] 23)).cell? ⟨w.heap.size, 12, none⟩ = some (.int .i64 (x 12)) := by go_simp
  have HS := Go.Lib.hid (law15_Small x)
  have HO := Go.Lib.hid (law03_Of x)
  have hn := core_new (cfOf x) (cfOf_ok h.1)
  rw [cfOf_vals h.1] at hn
  have HN := Go.Lib.hid hn
  rw [decide_eq_true h] at HS
  clear hn h
  go_enter Tryz.func13, Tryz.ntmps13
  go_wp2_with fail
  refine (HS.out _).mono ?_
  rintro e w1 ⟨rfl, hb1⟩
  have e0 := below_cell hb1 e0
  have e1 := below_cell hb1 e1
  have e2 := below_cell hb1 e2
  have e3 := below_cell hb1 e3
  have e4 := below_cell hb1 e4
  have e5 := below_cell hb1 e5
  have e6 := below_cell hb1 e6
  have e7 := below_cell hb1 e7
  have e8 := below_cell hb1 e8
  have e9 := below_cell hb1 e9
  have e10 := below_cell hb1 e10
  have e11 := below_cell hb1 e11
  have e12 := below_cell hb1 e12
  have hb := hb.trans (hb1.mono hb.size)
  clear hb1
  go_wp2_with fail
  refine (HO.out _).mono ?_
  rintro e w2 ⟨rfl, hb1⟩
  have hb2 := hb.trans (hb1.mono hb.size)
  clear hb1 hb
  go_wp2_with fail
  refine (HN.out _).mono ?_
  rintro e w3 ⟨E, L, rfl, hborn⟩
  have HBO := Go.Lib.hid hborn
  clear hborn
  go_wp2
  go_ret
  exact ⟨E, L, w2, rfl, hb2, HBO.out⟩
end Go.Proofs.YtgemjjpmoejgdaaGreat
/- The document's powers; the arena's count. -/
namespace Go.Proofs.YtgemjjpmoejgdaaGreat
open Go.RowKit
set_option maxRecDepth 100000
set_option linter.unusedVariables false

end Go.Proofs.YtgemjjpmoejgdaaGreat
/- A new task. -/
namespace Go.Proofs.YtgemjjpmoejgdaaGreat
open Go.RowKit
set_option maxRecDepth 100000
set_option linter.unusedVariables false

set_option maxHeartbeats 400000 in
theorem step_New (f : FuncId) (rc cap : Array Value) (w : World) :
    Calls Tryz.prog 17 #[.func (.func f) rc cap] w fun e w' => e = .returned (.pointer (some ⟨w.heap.size, 0, none⟩)) ∧ w' = w.alloc (.cells #[.func (.func f) rc cap, .int .i64 0] 142) := by
  go_enter Tryz.func17, Tryz.ntmps17
  go_wp2
  go_ret
  exact ⟨rfl, rfl⟩

/-- A new task's record is its own. -/
theorem Good.task {E : G} {L : Lab} {S : St} {w : World} (h : Good E L S w) (t : Nat) (v : Value) (ty : TypeId) :
    Good E (fun b => if b = w.heap.size then 5000 + t else L b) S (w.alloc (.cells #[v, .int .i64 0] ty)) ∧
      TaskAt (w.alloc (.cells #[v, .int .i64 0] ty)) (fun b => if b = w.heap.size then 5000 + t else L b) t w.heap.size v 0 ∧
      Ext t L w (fun b => if b = w.heap.size then 5000 + t else L b) (w.alloc (.cells #[v, .int .i64 0] ty)) := by
  have hb : Below w.heap.size w (w.alloc (.cells #[v, .int .i64 0] ty)) := (Below.refl _ _).alloc (Nat.le_refl _) _
  have hg := h.below hb
  have hL : ∀ b, b < w.heap.size → (if b = w.heap.size then 5000 + t else L b) = L b := fun b hb => by rw [if_neg (by omega)]
  have hne : ∀ b, L b ≠ 0 → b ≠ w.heap.size := fun b hb e => hb (e ▸ h.new _ (Nat.le_refl _))
  refine ⟨⟨hg.ok, hg.k0, hg.k1, hg.pl, hg.ar, ?_, ?_, ?_, ?_, ?_, ?_, ?_, ?_⟩, ⟨?_, ?_, ?_, ?_, ?_⟩, ⟨hb.os, hb.tape, hb.output, hb.size, fun b hb' _ => hb.block b hb', hL⟩⟩
  · exact h.lg.below (hb.block _ (cell_lt h.k0)) (fun g hg hlt => ⟨hb.block g hlt, hL g hlt⟩)
  · intro b o v' hv
    obtain ⟨r1, r2, r3⟩ := hg.rg b o v' hv
    refine ⟨r1, r2, ?_⟩
    rw [if_neg (hne b (by omega))]; exact r3
  · rw [if_neg (hne _ (by have := h.lk; omega))]; exact h.lk
  · rw [if_neg (by have := cell_lt h.pl.c0; dsimp only at this; omega)]; exact h.lp
  · rw [if_neg (hne _ (by have := h.la; omega))]; exact h.la
  · rw [if_neg (hne _ (by have := h.lc; omega))]; exact h.lc
  · intro b hb'
    rw [World.size_alloc] at hb'
    rw [if_neg (by omega)]; exact h.new b (by omega)
  · intro s hs
    have hlt := (h.sv s hs).1.lt
    exact ⟨(h.sv s hs).1.below (hb.block _ hlt) (hL _ hlt) (fun g hg hlt => ⟨hb.block g hlt, hL g hlt⟩), (h.sv s hs).2⟩
  · simp
  · simp
  · simp
  · simp
  · simp
end Go.Proofs.YtgemjjpmoejgdaaGreat
/- Code that is done to its end. -/
namespace Go.Proofs.YtgemjjpmoejgdaaGreat
open Go.RowKit
set_option maxRecDepth 100000
set_option linter.unusedVariables false

section
variable {ρ : Type} {R : ρ → Arg → St → St × Option (K ρ)} {cf : Cf} {E : G} {t : Nat}

/-- Code ends within so many steps, each of which touches one cell at most. -/
inductive Runs (cf : Cf) (R : ρ → Arg → St → St × Option (K ρ)) : K ρ → St → Nat → St → Prop
  | last {κ : K ρ} {S S' : St} : step cf R κ S = (S', none) → Bd S' → S'.cnt ≤ S.cnt + 1 → Runs cf R κ S 1 S'
  | more {κ κ1 : K ρ} {S S1 S' : St} {m : Nat} : step cf R κ S = (S1, some κ1) → Bd S1 → S1.cnt ≤ S.cnt + 1 → Runs cf R κ1 S1 m S' → Runs cf R κ S (m + 1) S'
theorem Runs.pos {κ : K ρ} {S S' : St} {m : Nat} (h : Runs cf R κ S m S') : 1 ≤ m := by cases h <;> omega

end
end Go.Proofs.YtgemjjpmoejgdaaGreat
/- A task is done to its end. -/
namespace Go.Proofs.YtgemjjpmoejgdaaGreat
open Go.RowKit
set_option maxRecDepth 100000
set_option linter.unusedVariables false

section
variable {ρ : Type} {R : ρ → Arg → St → St × Option (K ρ)} {cf : Cf} {E : G} {t : Nat}
/-- Code ends within so many steps. -/
inductive RunsF (cf : Cf) (R : ρ → Arg → St → St × Option (K ρ)) : K ρ → St → Nat → St → Prop
  | last {κ : K ρ} {S S' : St} : step cf R κ S = (S', none) → Bd S' → RunsF cf R κ S 1 S'
  | more {κ κ1 : K ρ} {S S1 S' : St} {m : Nat} : step cf R κ S = (S1, some κ1) → Bd S1 → RunsF cf R κ1 S1 m S' → RunsF cf R κ S (m + 1) S'
theorem RunsF.pos {κ : K ρ} {S S' : St} {m : Nat} (h : RunsF cf R κ S m S') : 1 ≤ m := by cases h <;> omega
theorem step_mono (hR : RMono R) (κ : K ρ) (S : St) : S.cnt ≤ (step cf R κ S).1.cnt ∧ S.log.length ≤ (step cf R κ S).1.log.length := by
  have tr : ∀ {T : St} {r : St × Option (K ρ)}, S.cnt ≤ T.cnt ∧ S.log = T.log → T.cnt ≤ r.1.cnt ∧ T.log.length ≤ r.1.log.length → S.cnt ≤ r.1.cnt ∧ S.log.length ≤ r.1.log.length := fun h k => ⟨Nat.le_trans h.1 k.1, h.2 ▸ k.2⟩
  have ht : ∀ i, S.cnt ≤ (S.touch i).cnt ∧ S.log = (S.touch i).log := fun i => by unfold St.touch; split <;> exact ⟨by first | exact Nat.le_succ _ | exact Nat.le_refl _, rfl⟩
  have hp : ∀ i v, S.cnt ≤ (S.put i v).cnt ∧ S.log = (S.put i v).log := fun i v => by unfold St.put; split <;> exact ⟨by first | exact Nat.le_succ _ | exact Nat.le_refl _, rfl⟩
  cases κ with
  | load i k => exact tr (ht i) (app_mono hR k _ _)
  | store i v k => exact tr (hp i v) (app_mono hR k _ _)
  | swap i v k => exact tr (hp i v) (app_mono hR k _ _)
  | cas i old v k =>
    refine tr (T := if S.get i = old then S.put i v else S.touch i) ?_ (app_mono hR k _ _)
    split
    · exact hp i v
    · exact ht i
  | idle k => exact app_mono hR k _ _
theorem RunsF.mono {κ : K ρ} {S S' : St} {m : Nat} (hR : RMono R) (h : RunsF cf R κ S m S') : S.cnt ≤ S'.cnt ∧ S.log.length ≤ S'.log.length := by
  induction h with
  | last h1 h2 => rename_i κ S S'; have := step_mono (cf := cf) hR κ S; rw [h1] at this; exact this
  | more h1 h2 h3 ih => rename_i κ κ1 S S1 S' m; have := step_mono (cf := cf) hR κ S; rw [h1] at this; exact ⟨Nat.le_trans this.1 ih.1, Nat.le_trans this.2 ih.2⟩
theorem RunsF.bd {κ : K ρ} {S S' : St} {m : Nat} (hR : RMono R) (h : RunsF cf R κ S m S') (hb : Bd S') : Bd S := ⟨Nat.le_trans (h.mono hR).1 hb.cnt, Nat.le_trans (h.mono hR).2 hb.log⟩
/-- What is left of code, and in how many steps it ends. -/
def RunsO (cf : Cf) (R : ρ → Arg → St → St × Option (K ρ)) : Option (K ρ) → St → Nat → St → Prop
  | some κ, S, m, S' => RunsF cf R κ S m S'
  | none, S, m, S' => m = 0 ∧ S = S'
set_option maxHeartbeats 4000000 in
theorem task_finish {L : Lab} {S S' : St} {w : World} {v : Value} {κ : K ρ} {m most tb s : Nat} (hg : Good E L S w) (htk : TaskAt w L t tb v s) (ht : t < 4000) (hm : m ≤ most) (hmo : most ≤ 1000000) (hs : s ≤ 1000000000) (hk : CodeSim cf R E t (m + 1) L w v (some κ)) (hr : RunsF cf R κ S m S') :
    Calls Tryz.prog 20 #[.pointer (some ⟨tb, 0, none⟩), .int .i64 most] w fun e w' => ∃ v' L', e = .returned (.bool true) ∧ Good E L' S' w' ∧ DidP (TP t) L w L' w' ∧ TaskAt w' L' t tb v' (s + m) := by
  have HI := Go.Lib.hid (And.intro hg (And.intro htk (And.intro hk (DidP.refl (TP t) L w))))
  have HR := Go.Lib.hid hr
  clear hg htk hk hr
  go_enter Tryz.func20, Tryz.ntmps20
  go_wp2
  go_loopw [5] (fun i wr => ∃ (j m1 : Nat) (k1 : Option (K ρ)) (S1 : St) (v1 : Value) (L2 : Lab), i = .int .i64 j ∧ m1 + j = m ∧ RunsO cf R k1 S1 m1 S' ∧ Good E L2 S1 wr ∧ TaskAt wr L2 t tb v1 (s + j) ∧ CodeSim cf R E t (m1 + 1) L2 wr v1 k1 ∧ DidP (TP t) L w L2 wr) (fun i _ => most - (intOf i).toNat)
  case atStart => exact ⟨0, m, some κ, S, v, L, rfl, by omega, HR.out, HI.out.1, HI.out.2.1, HI.out.2.2.1, HI.out.2.2.2⟩
  case round =>
    obtain ⟨j, m1, k1, S1, v1, L2, rfl, hj, hr, hg, htk, hk, hd⟩ := hrel
    have HEN := Go.Lib.hid (ended_any htk.c0 hk)
    cases k1 with
    | none =>
      obtain ⟨rfl, rfl⟩ := hr
      have hjm : j = m := by omega
      subst hjm
      have HX := Go.Lib.hid (And.intro hg (And.intro hd htk))
      clear hg htk hk hd
      by_cases hlt : j < most
      · have hD : ((j : Int) < (most : Int)) := by omega
        go_wp2_with (go_at_call 94; refine HEN.out.mono ?_; rintro e w2 ⟨rfl, rfl⟩)
        go_ret
        exact ⟨v1, L2, rfl, HX.out.1, HX.out.2.1, HX.out.2.2⟩
      · have hD : ((j : Int) < (most : Int)) = False := by simp; omega
        go_wp2_with (go_at_call 94; refine HEN.out.mono ?_; rintro e w2 ⟨rfl, rfl⟩)
        go_ret
        exact ⟨v1, L2, rfl, HX.out.1, HX.out.2.1, HX.out.2.2⟩
    | some κ1 =>
      have hr' : RunsF cf R κ1 S1 m1 S' := hr
      have hm1 := hr'.pos
      have hD : ((j : Int) < (most : Int)) := by omega
      obtain ⟨m2, rfl⟩ : ∃ m2, m1 = m2 + 1 := ⟨m1 - 1, by omega⟩
      have HS : Hid (∃ S2 k2, step cf R κ1 S1 = (S2, k2) ∧ Bd S2 ∧ RunsO cf R k2 S2 m2 S') := by
        cases hr' with
        | last h1 h2 => exact ⟨_, none, h1, h2, rfl, rfl⟩
        | more h1 h2 h4 => exact ⟨_, _, h1, h2, h4⟩
      obtain ⟨S2, k2, h1, h2, h4⟩ := HS.out
      have HST := Go.Lib.hid (fun hbd => task_step (n := m2) hg htk hk hbd (by omega) ht)
      rw [h1] at HST
      have HR4 := Go.Lib.hid h4
      have HB2 := Go.Lib.hid h2
      have HD := Go.Lib.hid hd
      clear hr hr' hg htk hk hd h1 h2 h4 HS
      go_wp2_with (go_at_call 94; refine HEN.out.mono ?_; rintro e w2 ⟨rfl, rfl⟩)
      refine (HST.out HB2.out).mono ?_
      rintro e w2 ⟨v2, L3, rfl, hd2, hg2, ht2, hk2⟩
      have HX := Go.Lib.hid (And.intro hg2 (And.intro hd2 (And.intro ht2 hk2)))
      clear hg2 hd2 ht2 hk2
      go_wp2
      refine ⟨⟨j + 1, m2, k2, S2, v2, L3, by go_num, by omega, HR4.out, HX.out.1, HX.out.2.2.1, HX.out.2.2.2, HD.out.trans HX.out.2.1⟩, by simp [intOf]; omega⟩
end
end Go.Proofs.YtgemjjpmoejgdaaGreat
/- Code that is done alone, step by step: what pops, pushes and puts leave. -/
namespace Go.Proofs.YtgemjjpmoejgdaaGreat
open Go.RowKit
set_option maxRecDepth 100000
set_option linter.unusedVariables false

theorem headIdx_turned (old : Nat) (f : Nat) (hf : f < 4294967295) : part (turned old ((f : Int))) 0 32 = f + 1 := by
  rw [turned_eq, headPacked_in _ _ (by omega)]
  have hc : (headCnt old + 1) % 4294967296 < 4294967296 := Nat.mod_lt _ (by decide)
  generalize (headCnt old + 1) % 4294967296 = k at *
  have f1 : fits (k : Int) 32 = true := by unfold fits; simp; omega
  have f2 : fits ((f : Int) + 1) 32 = true := by unfold fits; simp; omega
  have e : packed [32, 32] [(k : Int), (f : Int) + 1] = (k * 4294967296 + (f + 1), 0) := by
    unfold packed
    simp only [List.length_cons, List.length_nil]
    rw [if_pos (by simp [List.range_succ, f1, f2])]
    simp only [packAcc, wsum, List.take_succ_cons, List.take_zero, List.sum_cons, List.sum_nil, List.getD_cons_zero, List.getD_cons_succ]
    have a1 : ((k : Int)).toNat = k := by omega
    have a2 : ((f : Int) + 1).toNat = f + 1 := by omega
    rw [a1, a2]
    simp
  rw [e]
  unfold part
  simp
  omega
theorem headIdx_turned_end (old : Nat) : part (turned old (-1)) 0 32 = 0 := by
  rw [turned_eq, headPacked_in _ _ (by omega)]
  have hc : (headCnt old + 1) % 4294967296 < 4294967296 := Nat.mod_lt _ (by decide)
  generalize (headCnt old + 1) % 4294967296 = k at *
  have f1 : fits (k : Int) 32 = true := by unfold fits; simp; omega
  have f2 : fits (0 : Int) 32 = true := by decide
  have e : packed [32, 32] [(k : Int), (-1 : Int) + 1] = (k * 4294967296 + 0, 0) := by
    unfold packed
    simp only [List.length_cons, List.length_nil]
    rw [if_pos (by simp [List.range_succ, f1, f2])]
    simp only [packAcc, wsum, List.take_succ_cons, List.take_zero, List.sum_cons, List.sum_nil, List.getD_cons_zero, List.getD_cons_succ]
    have a1 : ((k : Int)).toNat = k := by omega
    rw [a1]
    simp
  rw [e]
  unfold part
  simp
/-- The word of a head that is popped: its index is what the link held. -/
theorem headIdx_next (old x : Nat) (hx : x ≤ 4294967295) : part (turned old ((x : Int) - 1)) 0 32 = x := by
  cases x with
  | zero => exact headIdx_turned_end old
  | succ f =>
    have e : ((f + 1 : Nat) : Int) - 1 = (f : Int) := by omega
    rw [e]; exact headIdx_turned old f (by omega)

/-- What a chain's links say: 0 is the end, x + 1 is the thing x. -/
def Ch (m lk : Nat → Nat) : Nat → List Nat → Prop
  | p, [] => p = 0
  | p, x :: xs => p = x + 1 ∧ Ch m lk (m (lk x)) xs
theorem Ch.upd {m lk : Nat → Nat} {a v : Nat} : ∀ {xs : List Nat} {p : Nat}, Ch m lk p xs → (∀ x ∈ xs, lk x ≠ a) → Ch (upd m a v) lk p xs
  | [], _, h, _ => h
  | x :: xs, p, h, hn => by
    refine ⟨h.1, ?_⟩
    have e : Go.Proofs.YtgemjjpmoejgdaaGreat.upd m a v (lk x) = m (lk x) := by unfold Go.Proofs.YtgemjjpmoejgdaaGreat.upd; rw [if_neg (hn x (List.mem_cons_self ..))]
    rw [e]
    exact h.2.upd fun y hy => hn y (List.mem_cons_of_mem _ hy)
theorem Ch.head_le {m lk : Nat → Nat} {xs : List Nat} {p n : Nat} (h : Ch m lk p xs) (hn : ∀ x ∈ xs, x < n) : p ≤ n := by
  cases xs with
  | nil => have : p = 0 := h; omega
  | cons x xs => have := h.1; have := hn x (List.mem_cons_self ..); omega
theorem Ch.of_chain {S : St} {lk : Nat → Nat} : ∀ {xs : List Nat} {p : Nat}, ChainOf S lk ((p : Int) - 1) xs → Ch S.m lk p xs
  | [], p, h => by
    have h1 : (p : Int) - 1 < 0 := h.1
    show p = 0
    omega
  | x :: xs, p, h => ⟨by have := h.1; omega, Ch.of_chain h.2.2.2⟩
theorem Ch.chain {S : St} {lk : Nat → Nat} {n : Nat} : ∀ {xs : List Nat} {p : Nat}, Ch S.m lk p xs → (∀ x ∈ xs, x < n) → (∀ x, x < n → lk x < S.n) → n ≤ 1000000 → ChainOf S lk ((p : Int) - 1) xs
  | [], p, h, _, _, _ => by have : p = 0 := h; exact ⟨by omega, by omega⟩
  | x :: xs, p, h, hn, hl, hb => by
    have h1 := hn x (List.mem_cons_self ..)
    have h2 := h.2.head_le fun y hy => hn y (List.mem_cons_of_mem _ hy)
    exact ⟨by have := h.1; omega, hl x h1, by omega, h.2.chain (fun y hy => hn y (List.mem_cons_of_mem _ hy)) hl hb⟩

/-- So many touches more, and other contents. -/
def St.w (S : St) (d : Nat) (m : Nat → Nat) : St := { S with cnt := S.cnt + d, m := m }
section
variable {ρ : Type} {cf : Cf} {R : ρ → Arg → St → St × Option (K ρ)}
/-- So many steps. -/
def iter (cf : Cf) (R : ρ → Arg → St → St × Option (K ρ)) : Nat → Option (K ρ) → St → St × Option (K ρ)
  | 0, k, S => (S, k)
  | _ + 1, none, S => (S, none)
  | n + 1, some κ, S => iter cf R n (step cf R κ S).2 (step cf R κ S).1
/-- So many steps behind a step. -/
def iterR (cf : Cf) (R : ρ → Arg → St → St × Option (K ρ)) (n : Nat) (r : St × Option (K ρ)) : St × Option (K ρ) := iter cf R n r.2 r.1
theorem iter_none (n : Nat) (S : St) : iter cf R n none S = (S, none) := by cases n <;> rfl
theorem iterR_none (n : Nat) (S : St) : iterR cf R n (S, none) = (S, none) := iter_none n S
/-- Code that is through within so many steps. -/
theorem runs_of_iter (hR : RMono R) : ∀ (n : Nat) (κ : K ρ) (S S' : St), iter cf R n (some κ) S = (S', none) → Bd S' → ∃ m, m ≤ n ∧ RunsF cf R κ S m S'
  | 0, κ, S, S', h, _ => by cases h
  | n + 1, κ, S, S', h, hb => by
    have h' : iter cf R n (step cf R κ S).2 (step cf R κ S).1 = (S', none) := h
    rcases e : step cf R κ S with ⟨S1, k1⟩
    rw [e] at h'
    cases k1 with
    | none =>
      rw [iter_none] at h'
      obtain ⟨rfl, _⟩ := Prod.mk.inj h'
      exact ⟨1, by omega, .last e hb⟩
    | some κ1 =>
      obtain ⟨m, hm, hr⟩ := runs_of_iter hR n κ1 S1 S' h' hb
      exact ⟨m + 1, by omega, .more e (hr.bd hR hb) hr⟩

theorem get_in {S : St} {i : Nat} (h : i < S.n) : S.get (i : Int) = S.m i := by
  have hh : S.has (i : Int) := ⟨by omega, by omega⟩
  unfold St.get; rw [if_pos hh]; simp
theorem touch_in {S : St} {i : Nat} (h : i < S.n) : S.touch (i : Int) = (S.w 1 S.m) := by
  have hh : S.has (i : Int) := ⟨by omega, by omega⟩
  unfold St.touch; rw [if_pos hh]; rfl
theorem put_in {S : St} {i v : Nat} (h : i < S.n) : S.put (i : Int) v = (S.w 1 (upd S.m i v)) := by
  have hh : S.has (i : Int) := ⟨by omega, by omega⟩
  unfold St.put; rw [if_pos hh]; rfl
theorem it_load {n : Nat} {i : Nat} {k : C ρ} {S : St} (h : i < S.n) : iter cf R (n + 1) (some (.load (i : Int) k)) S = iterR cf R n (app cf R k (.w (S.m i)) (S.w 1 S.m)) := by
  show iterR cf R n (app cf R k (.w (S.get (i : Int))) (S.touch (i : Int))) = _
  rw [get_in h, touch_in h]
theorem it_store {n : Nat} {i v : Nat} {k : C ρ} {S : St} (h : i < S.n) : iter cf R (n + 1) (some (.store (i : Int) v k)) S = iterR cf R n (app cf R k .u (S.w 1 (upd S.m i v))) := by
  show iterR cf R n (app cf R k .u (S.put (i : Int) v)) = _
  rw [put_in h]
theorem it_cas {n : Nat} {i old v : Nat} {k : C ρ} {S : St} (h : i < S.n) (ho : S.m i = old) : iter cf R (n + 1) (some (.cas (i : Int) old v k)) S = iterR cf R n (app cf R k (.b true) (S.w 1 (upd S.m i v))) := by
  have hh : S.has (i : Int) := ⟨by omega, by omega⟩
  show iterR cf R n (app cf R k (.b (decide (S.has (i : Int) ∧ S.get (i : Int) = old))) (if S.get (i : Int) = old then S.put (i : Int) v else S.touch (i : Int))) = _
  rw [get_in h, if_pos ho, decide_eq_true (And.intro hh ho), put_in h]
theorem wrap_next (x : Nat) (hx : x ≤ 4294967295) : wrap64 (toI x - 1) = (x : Int) - 1 := by
  unfold toI wrap64; omega
theorem headIdx_nat {w f : Nat} (h : part w 0 32 = f + 1) : headIdx w = (f : Int) := by unfold headIdx; rw [h]; omega

def Stk.headN : Stk → Nat
  | .nodes => 1
  | .tickets => 2
theorem Stk.head_eq (st : Stk) : st.head = (st.headN : Int) := by cases st <;> rfl

theorem it_pop_none {n : Nat} {st : Stk} {c : C ρ} {S : St} (hh : st.headN < S.n) (h : part (S.m st.headN) 0 32 = 0) :
    iter cf R (n + 1) (some (popK st c)) S = iterR cf R n (app cf R c (.pop (-1) false) (S.w 1 S.m)) := by
  unfold popK
  rw [Stk.head_eq, it_load hh]
  show iterR cf R n (if headIdx (S.m st.headN) < 0 then _ else _) = _
  rw [if_pos (by unfold headIdx; rw [h]; decide)]
theorem it_pop {n : Nat} {st : Stk} {c : C ρ} {S : St} {f l : Nat} (hh : st.headN < S.n) (h : part (S.m st.headN) 0 32 = f + 1) (hl : st.link cf (f : Int) = (l : Int)) (hln : l < S.n) (hx : S.m l ≤ 4294967295) :
    iter cf R (n + 3) (some (popK st c)) S = iterR cf R n (app cf R c (.pop (f : Int) true) (S.w 3 (upd S.m st.headN (turned (S.m st.headN) ((S.m l : Int) - 1))))) := by
  unfold popK
  rw [Stk.head_eq, it_load hh]
  show iterR cf R (n + 2) (if headIdx (S.m st.headN) < 0 then _ else _) = _
  rw [headIdx_nat h, if_neg (by omega), hl]
  show iter cf R (n + 2) (some (.load (l : Int) (.popB st (S.m st.headN) (f : Int) c))) (S.w 1 S.m) = _
  rw [it_load (S := S.w 1 S.m) hln]
  show iter cf R (n + 1) (some (.cas st.head (S.m st.headN) (turned (S.m st.headN) (wrap64 (toI (S.m l) - 1))) (.popC st f c))) (S.w 2 S.m) = _
  rw [Stk.head_eq, it_cas (S := S.w 2 S.m) (old := S.m st.headN) hh rfl, wrap_next _ hx]
  rfl
theorem toU_idx {w : Nat} : toU (headIdx w + 1) = part w 0 32 := by
  have h : part w 0 32 < 4294967296 := Nat.mod_lt _ (by decide)
  unfold toU headIdx; omega
theorem it_push {n : Nat} {st : Stk} {i : Int} {c : C ρ} {S : St} {l : Nat} (hh : st.headN < S.n) (hl : st.link cf i = (l : Int)) (hln : l < S.n) (hne : l ≠ st.headN) :
    iter cf R (n + 3) (some (pushK st i c)) S = iterR cf R n (app cf R c .u (S.w 3 (upd (upd S.m l (part (S.m st.headN) 0 32)) st.headN (turned (S.m st.headN) i)))) := by
  unfold pushK
  rw [Stk.head_eq, it_load hh]
  show iter cf R (n + 2) (some (.store (st.link cf i) (toU (headIdx (S.m st.headN) + 1)) (.pushB st i (S.m st.headN) c))) (S.w 1 S.m) = _
  rw [hl, toU_idx, it_store (S := S.w 1 S.m) hln]
  show iter cf R (n + 1) (some (.cas st.head (S.m st.headN) (turned (S.m st.headN) i) (.pushC st i c))) (S.w 2 (upd S.m l (part (S.m st.headN) 0 32))) = _
  rw [Stk.head_eq, it_cas (S := S.w 2 (upd S.m l (part (S.m st.headN) 0 32))) hh (by show upd _ _ _ _ = _; unfold upd; rw [if_neg (Ne.symm hne)])]
  rfl
theorem it_write {n : Nat} {t g v nd d : Int} {k t0 : Nat} {c : C ρ} {S : St} (hk : cf.key t = (k : Int)) (ht : cf.time t = (t0 : Int)) (hkn : k < S.n) (htn : t0 < S.n) :
    iter cf R (n + 2) (some (writeK cf t g v nd d c)) S = iterR cf R n (app cf R c .u (S.w 2 (upd (upd S.m k (keyWord g v nd)) t0 (toU (upI d cf.slack))))) := by
  unfold writeK
  rw [hk, it_store hkn]
  show iter cf R (n + 1) (some (.store (cf.time t) _ c)) (S.w 1 (upd S.m k (keyWord g v nd))) = _
  rw [ht, it_store (S := S.w 1 (upd S.m k (keyWord g v nd))) htn]
  rfl
end

section
variable {ρ : Type} {cf : Cf} {R0 : ρ → Arg → St → St × Option (K (PR ρ))}
/-- A ticket is laid ahead of what is first, which is none, or isn't dead. -/
theorem it_lay {n : Nat} {s t : Int} {b l head : Nat} {k : PR ρ} {S : St} (hb : cf.inbox s = (b : Int)) (hl : cf.ticketLink t = (l : Int)) (hbn : b < S.n) (hln : l < S.n) (hne : l ≠ b) (hh : S.m b = head) :
    iter cf (prApp cf R0) (n + 2) (some (layK cf s t head (headIdx head) k)) S = iterR cf (prApp cf R0) n (prApp cf R0 k .u (S.w 2 (upd (upd S.m l (part head 0 32)) b (turned head t)))) := by
  unfold layK
  rw [hl, toU_idx, it_store hln]
  show iter cf (prApp cf R0) (n + 1) (some (.cas (cf.inbox s) head (turned head t) (.ret (.layC s t k)))) (S.w 1 (upd S.m l (part head 0 32))) = _
  rw [hb, it_cas (S := S.w 1 (upd S.m l (part head 0 32))) hbn (by show upd _ _ _ _ = _; unfold upd; rw [if_neg (Ne.symm hne)]; exact hh)]
  rfl
theorem it_put_empty {n : Nat} {s t : Int} {b l : Nat} {k : PR ρ} {S : St} (hb : cf.inbox s = (b : Int)) (hl : cf.ticketLink t = (l : Int)) (hbn : b < S.n) (hln : l < S.n) (hne : l ≠ b) (he : part (S.m b) 0 32 = 0) :
    iter cf (prApp cf R0) (n + 3) (some (putK cf s t k)) S = iterR cf (prApp cf R0) n (prApp cf R0 k .u (S.w 3 (upd (upd S.m l (part (S.m b) 0 32)) b (turned (S.m b) t)))) := by
  unfold putK
  rw [hb, it_load hbn]
  show iterR cf (prApp cf R0) (n + 2) (if headIdx (S.m b) < 0 then (_, some (layK cf s t (S.m b) (headIdx (S.m b)) k)) else _) = _
  rw [if_pos (by unfold headIdx; rw [he]; decide)]
  show iter cf (prApp cf R0) (n + 2) (some (layK cf s t (S.m b) (headIdx (S.m b)) k)) (S.w 1 S.m) = _
  rw [it_lay (S := S.w 1 S.m) (head := S.m b) hb hl hbn hln hne rfl]
  rfl
/-- Is a ticket dead? -/
def deadM (c : Cf) (m : Nat → Nat) (t : Nat) : Bool :=
  decide (¬ (part (m (c.nodesAt + 4 * part (m (c.ticketsAt + 3 * t)) 0 16)) 0 2 = 1) ∨ ¬ (((part (m (c.nodesAt + 4 * part (m (c.ticketsAt + 3 * t)) 0 16)) 32 32 : Nat) : Int) = (part (m (c.ticketsAt + 3 * t)) 32 32 : Nat)))
theorem it_dead {n : Nat} {ρ : Type} {R : ρ → Arg → St → St × Option (K ρ)} {t : Nat} {c : C ρ} {S : St} (hn : S.n = cf.size) (ht : t < cf.tickets) (hd : part (S.m (cf.ticketsAt + 3 * t)) 0 16 < cf.nodes) :
    iter cf R (n + 2) (some (deadK cf t c)) S = iterR cf R n (app cf R c (.b (deadM cf S.m t)) (S.w 2 S.m)) := by
  have h1 : cf.ticketsAt + 3 * t + 2 < cf.size := by unfold Cf.size Cf.connsAt; omega
  have h2 : cf.nodesAt + 4 * part (S.m (cf.ticketsAt + 3 * t)) 0 16 < cf.ticketsAt := by have : cf.ticketsAt = cf.nodesAt + 4 * cf.nodes := rfl; omega
  have e1 : cf.key t = ((cf.ticketsAt + 3 * t : Nat) : Int) := ticket_at cf t ht 0
  unfold deadK
  rw [e1, it_load (by omega)]
  show iter cf R (n + 1) (some (.load (cf.state (part (S.m (cf.ticketsAt + 3 * t)) 0 16 : Nat)) (.deadB (part (S.m (cf.ticketsAt + 3 * t)) 32 32 : Nat) c))) (S.w 1 S.m) = _
  rw [state_at cf _ hd, it_load (S := S.w 1 S.m) (by show _ < S.n; omega)]
  rfl
theorem it_put_alive {n : Nat} {s t : Int} {b l f : Nat} {k : PR ρ} {S : St} (hn : S.n = cf.size) (hb : cf.inbox s = (b : Int)) (hl : cf.ticketLink t = (l : Int)) (hbn : b < S.n) (hln : l < S.n) (hne : l ≠ b) (he : part (S.m b) 0 32 = f + 1)
    (hf : f < cf.tickets) (hfn : part (S.m (cf.ticketsAt + 3 * f)) 0 16 < cf.nodes) (hd : deadM cf S.m f = false) :
    iter cf (prApp cf R0) (n + 5) (some (putK cf s t k)) S = iterR cf (prApp cf R0) n (prApp cf R0 k .u (S.w 5 (upd (upd S.m l (part (S.m b) 0 32)) b (turned (S.m b) t)))) := by
  unfold putK
  rw [hb, it_load hbn]
  show iterR cf (prApp cf R0) (n + 4) (if headIdx (S.m b) < 0 then _ else (_, some (deadK cf (headIdx (S.m b)) (.ret (.putB s t (S.m b) (headIdx (S.m b)) k))))) = _
  rw [if_neg (by rw [headIdx_nat he]; omega)]
  have e : headIdx (S.m b) = (f : Int) := headIdx_nat he
  show iter cf (prApp cf R0) (n + 4) (some (deadK cf (headIdx (S.m b)) (.ret (.putB s t (S.m b) (headIdx (S.m b)) k)))) (S.w 1 S.m) = _
  rw [show deadK cf (headIdx (S.m b)) (C.ret (PR.putB s t (S.m b) (headIdx (S.m b)) k)) = deadK cf (f : Int) (C.ret (PR.putB s t (S.m b) (headIdx (S.m b)) k)) by rw [e], it_dead (S := S.w 1 S.m) hn hf hfn]
  show iterR cf (prApp cf R0) (n + 2) (if deadM cf S.m f = true then _ else (_, some (layK cf s t (S.m b) (headIdx (S.m b)) k))) = _
  rw [if_neg (by rw [hd]; decide)]
  show iter cf (prApp cf R0) (n + 2) (some (layK cf s t (S.m b) (headIdx (S.m b)) k)) (S.w 3 S.m) = _
  rw [it_lay (S := S.w 3 S.m) (head := S.m b) hb hl hbn hln hne rfl]
  rfl
/-- The first ticket, which is dead, is taken out, and freed; then it is tried again. -/
theorem it_put_dead {n : Nat} {s t : Int} {b f lf : Nat} {k : PR ρ} {S : St} (hn : S.n = cf.size) (hb : cf.inbox s = (b : Int)) (hlf : lf = cf.ticketsAt + 3 * f + 2) (hbn : b < S.n) (hb3 : 3 ≤ b) (hbt : b < cf.ticketsAt) (he : part (S.m b) 0 32 = f + 1)
    (hf : f < cf.tickets) (hfn : part (S.m (cf.ticketsAt + 3 * f)) 0 16 < cf.nodes) (hd : deadM cf S.m f = true) (hx : S.m lf ≤ 4294967295) :
    iter cf (prApp cf R0) (n + 8) (some (putK cf s t k)) S = iter cf (prApp cf R0) n (some (putK cf s t k)) (S.w 8 (upd (upd (upd S.m b (turned (S.m b) ((S.m lf : Int) - 1))) lf (part (S.m 2) 0 32)) 2 (turned (S.m 2) f))) := by
  have hsz : cf.ticketsAt + 3 * f + 2 < cf.size := by unfold Cf.size Cf.connsAt; omega
  have el : cf.ticketLink (f : Int) = (lf : Int) := by rw [hlf]; exact ticketLink_at cf f hf
  unfold putK
  rw [hb, it_load hbn]
  show iterR cf (prApp cf R0) (n + 7) (if headIdx (S.m b) < 0 then _ else (_, some (deadK cf (headIdx (S.m b)) (.ret (.putB s t (S.m b) (headIdx (S.m b)) k))))) = _
  rw [if_neg (by rw [headIdx_nat he]; omega)]
  have e : headIdx (S.m b) = (f : Int) := headIdx_nat he
  show iter cf (prApp cf R0) (n + 7) (some (deadK cf (headIdx (S.m b)) (.ret (.putB s t (S.m b) (headIdx (S.m b)) k)))) (S.w 1 S.m) = _
  rw [show deadK cf (headIdx (S.m b)) (C.ret (PR.putB s t (S.m b) (headIdx (S.m b)) k)) = deadK cf (f : Int) (C.ret (PR.putB s t (S.m b) (f : Int) k)) by rw [e], it_dead (S := S.w 1 S.m) hn hf hfn]
  show iterR cf (prApp cf R0) (n + 5) (if deadM cf S.m f = true then (_, some (.load (cf.ticketLink (f : Int)) (.ret (.helpA s t (S.m b) (f : Int) k)))) else _) = _
  rw [if_pos hd]
  show iter cf (prApp cf R0) (n + 5) (some (.load (cf.ticketLink (f : Int)) (.ret (.helpA s t (S.m b) (f : Int) k)))) (S.w 3 S.m) = _
  rw [el, it_load (S := S.w 3 S.m) (by show lf < S.n; omega)]
  show iter cf (prApp cf R0) (n + 4) (some (.cas (cf.inbox s) (S.m b) (turned (S.m b) (wrap64 (toI (S.m lf) - 1))) (.ret (.helpB s t (f : Int) k)))) (S.w 4 S.m) = _
  rw [hb, it_cas (S := S.w 4 S.m) (old := S.m b) hbn rfl, wrap_next _ hx]
  show iter cf (prApp cf R0) (n + 3) (some (pushK .tickets (f : Int) (.ret (.again s t k)))) (S.w 5 (upd S.m b (turned (S.m b) ((S.m lf : Int) - 1)))) = _
  rw [it_push (st := .tickets) (cf := cf) (i := (f : Int)) (S := S.w 5 (upd S.m b (turned (S.m b) ((S.m lf : Int) - 1)))) (l := lf) (by show 2 < S.n; omega) el (by show lf < S.n; omega) (by show lf ≠ 2; omega)]
  have e2 : upd S.m b (turned (S.m b) ((S.m lf : Int) - 1)) 2 = S.m 2 := by unfold upd; rw [if_neg (by omega)]
  show iter cf (prApp cf R0) n (some (putK cf s t k)) (S.w 8 (upd (upd (upd S.m b (turned (S.m b) ((S.m lf : Int) - 1))) lf (part (upd S.m b (turned (S.m b) ((S.m lf : Int) - 1)) 2) 0 32)) 2 (turned (upd S.m b (turned (S.m b) ((S.m lf : Int) - 1)) 2) f))) = _
  rw [e2]
  unfold putK
  rw [hb]
end
end Go.Proofs.YtgemjjpmoejgdaaGreat
