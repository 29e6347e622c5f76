/- Lengths, sizes, what is free at first, a node's state. -/
import Derived.Test.YtlbjjooiiikmjaaTh
import Derived.Test.YtlbjjooiiikmjaaU
import Derived.Deep.RegionHeld3
namespace Go.Proofs.Ytlbjjooiiikmjaa
open Go.RowKit
set_option maxRecDepth 100000
set_option linter.unusedVariables false

set_option maxHeartbeats 400000 in
theorem log_len {E : G} {L : Lab} {S : St} {w : World} (hg : Good E L S w) :
    Calls Try.prog 20 #[.pointer (some ⟨E.k, 2, none⟩)] w fun e w' => e = .returned (.int .i64 S.log.length) ∧ w' = w := by
  obtain ⟨lv, hlv, hown, _⟩ := hg.lg.ex
  obtain ⟨a, cap, rfl⟩ := own_form hown
  clear hown hg
  generalize S.log.length = n at *
  go_enter Try.func20, Try.ntmps20
  go_wp2
  go_ret
  exact ⟨rfl, rfl⟩
set_option maxHeartbeats 400000 in
theorem arena_len {E : G} {L : Lab} {S : St} {w : World} (hg : Good E L S w) :
    Calls Try.prog 22 #[.pointer (some ⟨E.a, 0, none⟩)] w fun e w' => e = .returned (.int .i64 S.n) ∧ w' = w := by
  have h0 := hg.ar.a0
  clear hg
  go_enter Try.func22, Try.ntmps22
  go_wp2
  go_ret
  exact ⟨rfl, rfl⟩
set_option maxHeartbeats 400000 in
theorem ref_Slots (x : Nat → Int) (h : okI x) (w : World) :
    Calls Try.prog 46 #[.agg #[.int .i64 (x 0), .int .i64 (x 1), .int .i64 (x 2), .int .i64 (x 3), .int .i64 (x 4), .int .i64 (x 5), .int .i64 (x 6), .int .i64 (x 7), .int .i64 (x 8), .int .i64 (x 9), .int .i64 (x 10), .int .i64 (x 11), .int .i64 (x 12)]] w fun e w' => e = .returned (.int .i64 ((cfOf x).slots : Nat)) ∧ Below w.heap.size w w' := by
  have h2 := h 2 (by decide)
  have h3 : (1 : Int) ≤ x 2 := h2.1
  have h4 : x 2 ≤ 6 := h2.2
  have hb2 : x 2 = ((cfOf x).bits : Nat) := by show x 2 = ((x 2).toNat : Nat); omega
  have hs := (cfOf_ok h).slots_le
  have HP := Go.Lib.hid (ref_Power (cfOf x).bits (by have := (cfOf_ok h).b2; omega))
  have hsl : 2 ^ (cfOf x).bits = (cfOf x).slots := rfl
  rw [hsl] at HP
  rw [← hb2] at HP
  generalize (cfOf x).slots = sl at *
  have hw : IntKind.i64.wrap (sl : Int) = sl := IntWalk.i64_in _ (by omega)
  clear h h2 hb2 hsl
  go_enter Try.func46, Try.ntmps46
  go_wp2_with fail
  refine (HP.out _).mono ?_
  rintro e w' ⟨rfl, rfl⟩
  go_wp2
  go_ret
  exact ⟨rfl, (Below.refl _ _).alloc (Nat.le_refl _) _⟩
theorem size_law {x : Nat → Int} (h : okI x) : 3 + x 0 * (3 + x 1 * (1 + ((cfOf x).slots : Nat))) + 4 * x 3 + 3 * x 4 + x 7 = ((cfOf x).size : Nat) := by
  have g0 : x 0 = ((cfOf x).workers : Nat) := by have : (1 : Int) ≤ x 0 := (h 0 (by decide)).1; show x 0 = ((x 0).toNat : Nat); omega
  have g1 : x 1 = ((cfOf x).levels : Nat) := by have : (1 : Int) ≤ x 1 := (h 1 (by decide)).1; show x 1 = ((x 1).toNat : Nat); omega
  have g3 : x 3 = ((cfOf x).nodes : Nat) := by have : (1 : Int) ≤ x 3 := (h 3 (by decide)).1; show x 3 = ((x 3).toNat : Nat); omega
  have g4 : x 4 = ((cfOf x).tickets : Nat) := by have : (1 : Int) ≤ x 4 := (h 4 (by decide)).1; show x 4 = ((x 4).toNat : Nat); omega
  have g7 : x 7 = ((cfOf x).conns : Nat) := by have : (0 : Int) ≤ x 7 := (h 7 (by decide)).1; show x 7 = ((x 7).toNat : Nat); omega
  rw [g0, g1, g3, g4, g7]
  unfold Cf.size Cf.connsAt Cf.ticketsAt Cf.nodesAt Cf.shard
  simp only [Int.natCast_add, Int.natCast_mul]
  rfl
set_option maxHeartbeats 1000000 in
theorem ref_Size (x : Nat → Int) (h : okI x) (w : World) :
    Calls Try.prog 23 #[.agg #[.int .i64 (x 0), .int .i64 (x 1), .int .i64 (x 2), .int .i64 (x 3), .int .i64 (x 4), .int .i64 (x 5), .int .i64 (x 6), .int .i64 (x 7), .int .i64 (x 8), .int .i64 (x 9), .int .i64 (x 10), .int .i64 (x 11), .int .i64 (x 12)]] w fun e w' => e = .returned (.int .i64 ((cfOf x).size : Nat)) ∧ Below w.heap.size w w' := by
  have HL := Go.Lib.hid (size_law h)
  have HSL := Go.Lib.hid (ref_Slots x h)
  have hs := (cfOf_ok h).slots_le
  have hz := (cfOf_ok h).size_le
  have b0 : (1 : Int) ≤ x 0 ∧ x 0 ≤ 64 := h 0 (by decide)
  have b1 : (1 : Int) ≤ x 1 ∧ x 1 ≤ 8 := h 1 (by decide)
  have b3 : (1 : Int) ≤ x 3 ∧ x 3 ≤ 4096 := h 3 (by decide)
  have b4 : (1 : Int) ≤ x 4 ∧ x 4 ≤ 8192 := h 4 (by decide)
  have b7 : (0 : Int) ≤ x 7 ∧ x 7 ≤ 256 := h 7 (by decide)
  generalize (cfOf x).slots = sl at *
  generalize (cfOf x).size = sz at *
  have p1 : 0 ≤ x 1 * (1 + (sl : Int)) ∧ x 1 * (1 + (sl : Int)) ≤ 520 := ⟨Int.mul_nonneg (by omega) (by omega), by
    have h1 : x 1 * (1 + (sl : Int)) ≤ 8 * (1 + (sl : Int)) := Int.mul_le_mul_of_nonneg_right b1.2 (by omega)
    omega⟩
  generalize hm1 : x 1 * (1 + (sl : Int)) = m1 at *
  have p2 : 0 ≤ x 0 * (3 + m1) ∧ x 0 * (3 + m1) ≤ 33472 := ⟨Int.mul_nonneg (by omega) (by omega), by
    have h1 : x 0 * (3 + m1) ≤ 64 * (3 + m1) := Int.mul_le_mul_of_nonneg_right b0.2 (by omega)
    omega⟩
  have w1 : IntKind.i64.wrap (1 + (sl : Int)) = 1 + (sl : Int) := IntWalk.i64_in _ (by omega)
  have w2 : IntKind.i64.wrap (x 1 * (1 + (sl : Int))) = m1 := by rw [hm1]; exact IntWalk.i64_in _ (by omega)
  have w3 : IntKind.i64.wrap (3 + m1) = 3 + m1 := IntWalk.i64_in _ (by omega)
  generalize hm2 : x 0 * (3 + m1) = m2 at *
  have w4 : IntKind.i64.wrap (x 0 * (3 + m1)) = m2 := by rw [hm2]; exact IntWalk.i64_in _ (by omega)
  have w5 : IntKind.i64.wrap (3 + m2) = 3 + m2 := IntWalk.i64_in _ (by omega)
  have w6 : IntKind.i64.wrap (4 * x 3) = 4 * x 3 := IntWalk.i64_in _ (by omega)
  have w7 : IntKind.i64.wrap (3 + m2 + 4 * x 3) = 3 + m2 + 4 * x 3 := IntWalk.i64_in _ (by omega)
  have w8 : IntKind.i64.wrap (3 * x 4) = 3 * x 4 := IntWalk.i64_in _ (by omega)
  have w9 : IntKind.i64.wrap (3 + m2 + 4 * x 3 + 3 * x 4) = 3 + m2 + 4 * x 3 + 3 * x 4 := IntWalk.i64_in _ (by omega)
  have w10 : IntKind.i64.wrap (3 + m2 + 4 * x 3 + 3 * x 4 + x 7) = 3 + m2 + 4 * x 3 + 3 * x 4 + x 7 := IntWalk.i64_in _ (by omega)
  have hb : Below w.heap.size w (w.alloc (.cells #[.int .i64 (x 0), .int .i64 (x 1), .int .i64 (x 2), .int .i64 (x 3), .int .i64 (x 4), .int .i64 (x 5), .int .i64 (x 6), .int .i64 (x 7), .int .i64 (x 8), .int .i64 (x 9), .int .i64 (x 10), .int .i64 (x 11), .int .i64 (x 12)] 23)) := (Below.refl _ _).alloc (Nat.le_refl _) _
  have e0 : (w.alloc (.cells #[.int .i64 (x 0), .int .i64 (x 1), .int .i64 (x 2), .int .i64 (x 3), .int .i64 (x 4), .int .i64 (x 5), .int .i64 (x 6), .int .i64 (x 7), .int .i64 (x 8), .int .i64 (x 9), .int .i64 (x 10), .int .i64 (x 11), .int .i64 (x 12)] 23)).cell? ⟨w.heap.size, 0, none⟩ = some (.int .i64 (x 0)) := by go_simp
  have e1 : (w.alloc (.cells #[.int .i64 (x 0), .int .i64 (x 1), .int .i64 (x 2), .int .i64 (x 3), .int .i64 (x 4), .int .i64 (x 5), .int .i64 (x 6), .int .i64 (x 7), .int .i64 (x 8), .int .i64 (x 9), .int .i64 (x 10), .int .i64 (x 11), .int .i64 (x 12)] 23)).cell? ⟨w.heap.size, 1, none⟩ = some (.int .i64 (x 1)) := by go_simp
  have e2 : (w.alloc (.cells #[.int .i64 (x 0), .int .i64 (x 1), .int .i64 (x 2), .int .i64 (x 3), .int .i64 (x 4), .int .i64 (x 5), .int .i64 (x 6), .int .i64 (x 7), .int .i64 (x 8), .int .i64 (x 9), .int .i64 (x 10), .int .i64 (x 11), .int .i64 (x 12)] 23)).cell? ⟨w.heap.size, 2, none⟩ = some (.int .i64 (x 2)) := by go_simp
  have e3 : (w.alloc (.cells #[.int .i64 (x 0), .int .i64 (x 1), .int .i64 (x 2), .int .i64 (x 3), .int .i64 (x 4), .int .i64 (x 5), .int .i64 (x 6), .int .i64 (x 7), .int .i64 (x 8), .int .i64 (x 9), .int .i64 (x 10), .int .i64 (x 11), .int .i64 (x 12)] 23)).cell? ⟨w.heap.size, 3, none⟩ = some (.int .i64 (x 3)) := by go_simp
  have e4 : (w.alloc (.cells #[.int .i64 (x 0), .int .i64 (x 1), .int .i64 (x 2), .int .i64 (x 3), .int .i64 (x 4), .int .i64 (x 5), .int .i64 (x 6), .int .i64 (x 7), .int .i64 (x 8), .int .i64 (x 9), .int .i64 (x 10), .int .i64 (x 11), .int .i64 (x 12)] 23)).cell? ⟨w.heap.size, 4, none⟩ = some (.int .i64 (x 4)) := by go_simp
  have e5 : (w.alloc (.cells #[.int .i64 (x 0), .int .i64 (x 1), .int .i64 (x 2), .int .i64 (x 3), .int .i64 (x 4), .int .i64 (x 5), .int .i64 (x 6), .int .i64 (x 7), .int .i64 (x 8), .int .i64 (x 9), .int .i64 (x 10), .int .i64 (x 11), .int .i64 (x 12)] 23)).cell? ⟨w.heap.size, 5, none⟩ = some (.int .i64 (x 5)) := by go_simp
  have e6 : (w.alloc (.cells #[.int .i64 (x 0), .int .i64 (x 1), .int .i64 (x 2), .int .i64 (x 3), .int .i64 (x 4), .int .i64 (x 5), .int .i64 (x 6), .int .i64 (x 7), .int .i64 (x 8), .int .i64 (x 9), .int .i64 (x 10), .int .i64 (x 11), .int .i64 (x 12)] 23)).cell? ⟨w.heap.size, 6, none⟩ = some (.int .i64 (x 6)) := by go_simp
  have e7 : (w.alloc (.cells #[.int .i64 (x 0), .int .i64 (x 1), .int .i64 (x 2), .int .i64 (x 3), .int .i64 (x 4), .int .i64 (x 5), .int .i64 (x 6), .int .i64 (x 7), .int .i64 (x 8), .int .i64 (x 9), .int .i64 (x 10), .int .i64 (x 11), .int .i64 (x 12)] 23)).cell? ⟨w.heap.size, 7, none⟩ = some (.int .i64 (x 7)) := by go_simp
  have e8 : (w.alloc (.cells #[.int .i64 (x 0), .int .i64 (x 1), .int .i64 (x 2), .int .i64 (x 3), .int .i64 (x 4), .int .i64 (x 5), .int .i64 (x 6), .int .i64 (x 7), .int .i64 (x 8), .int .i64 (x 9), .int .i64 (x 10), .int .i64 (x 11), .int .i64 (x 12)] 23)).cell? ⟨w.heap.size, 8, none⟩ = some (.int .i64 (x 8)) := by go_simp
  have e9 : (w.alloc (.cells #[.int .i64 (x 0), .int .i64 (x 1), .int .i64 (x 2), .int .i64 (x 3), .int .i64 (x 4), .int .i64 (x 5), .int .i64 (x 6), .int .i64 (x 7), .int .i64 (x 8), .int .i64 (x 9), .int .i64 (x 10), .int .i64 (x 11), .int .i64 (x 12)] 23)).cell? ⟨w.heap.size, 9, none⟩ = some (.int .i64 (x 9)) := by go_simp
  have e10 : (w.alloc (.cells #[.int .i64 (x 0), .int .i64 (x 1), .int .i64 (x 2), .int .i64 (x 3), .int .i64 (x 4), .int .i64 (x 5), .int .i64 (x 6), .int .i64 (x 7), .int .i64 (x 8), .int .i64 (x 9), .int .i64 (x 10), .int .i64 (x 11), .int .i64 (x 12)] 23)).cell? ⟨w.heap.size, 10, none⟩ = some (.int .i64 (x 10)) := by go_simp
  have e11 : (w.alloc (.cells #[.int .i64 (x 0), .int .i64 (x 1), .int .i64 (x 2), .int .i64 (x 3), .int .i64 (x 4), .int .i64 (x 5), .int .i64 (x 6), .int .i64 (x 7), .int .i64 (x 8), .int .i64 (x 9), .int .i64 (x 10), .int .i64 (x 11), .int .i64 (x 12)] 23)).cell? ⟨w.heap.size, 11, none⟩ = some (.int .i64 (x 11)) := by go_simp
  have e12 : (w.alloc (.cells #[.int .i64 (x 0), .int .i64 (x 1), .int .i64 (x 2), .int .i64 (x 3), .int .i64 (x 4), .int .i64 (x 5), .int .i64 (x 6), .int .i64 (x 7), .int .i64 (x 8), .int .i64 (x 9), .int .i64 (x 10), .int .i64 (x 11), .int .i64 (x 12)] 23)).cell? ⟨w.heap.size, 12, none⟩ = some (.int .i64 (x 12)) := by go_simp
  have M1 := Go.Lib.hid hm1
  have M2 := Go.Lib.hid hm2
  clear hm1 hm2 h p1 p2 b0 b1 b3 b4 b7 hs hz
  go_enter Try.func23, Try.ntmps23
  go_wp2
  generalize (w.alloc (.cells #[.int .i64 (x 0), .int .i64 (x 1), .int .i64 (x 2), .int .i64 (x 3), .int .i64 (x 4), .int .i64 (x 5), .int .i64 (x 6), .int .i64 (x 7), .int .i64 (x 8), .int .i64 (x 9), .int .i64 (x 10), .int .i64 (x 11), .int .i64 (x 12)] 23)) = w1 at *
  have e0' : ∀ d os, (Sort.grow (redrawn w1 d) os).cell? ⟨w.heap.size, 0, none⟩ = some (.int .i64 (x 0)) := fun d os => cell_regrown e0 d os
  have e1' : ∀ d os, (Sort.grow (redrawn w1 d) os).cell? ⟨w.heap.size, 1, none⟩ = some (.int .i64 (x 1)) := fun d os => cell_regrown e1 d os
  have e2' : ∀ d os, (Sort.grow (redrawn w1 d) os).cell? ⟨w.heap.size, 2, none⟩ = some (.int .i64 (x 2)) := fun d os => cell_regrown e2 d os
  have e3' : ∀ d os, (Sort.grow (redrawn w1 d) os).cell? ⟨w.heap.size, 3, none⟩ = some (.int .i64 (x 3)) := fun d os => cell_regrown e3 d os
  have e4' : ∀ d os, (Sort.grow (redrawn w1 d) os).cell? ⟨w.heap.size, 4, none⟩ = some (.int .i64 (x 4)) := fun d os => cell_regrown e4 d os
  have e5' : ∀ d os, (Sort.grow (redrawn w1 d) os).cell? ⟨w.heap.size, 5, none⟩ = some (.int .i64 (x 5)) := fun d os => cell_regrown e5 d os
  have e6' : ∀ d os, (Sort.grow (redrawn w1 d) os).cell? ⟨w.heap.size, 6, none⟩ = some (.int .i64 (x 6)) := fun d os => cell_regrown e6 d os
  have e7' : ∀ d os, (Sort.grow (redrawn w1 d) os).cell? ⟨w.heap.size, 7, none⟩ = some (.int .i64 (x 7)) := fun d os => cell_regrown e7 d os
  have e8' : ∀ d os, (Sort.grow (redrawn w1 d) os).cell? ⟨w.heap.size, 8, none⟩ = some (.int .i64 (x 8)) := fun d os => cell_regrown e8 d os
  have e9' : ∀ d os, (Sort.grow (redrawn w1 d) os).cell? ⟨w.heap.size, 9, none⟩ = some (.int .i64 (x 9)) := fun d os => cell_regrown e9 d os
  have e10' : ∀ d os, (Sort.grow (redrawn w1 d) os).cell? ⟨w.heap.size, 10, none⟩ = some (.int .i64 (x 10)) := fun d os => cell_regrown e10 d os
  have e11' : ∀ d os, (Sort.grow (redrawn w1 d) os).cell? ⟨w.heap.size, 11, none⟩ = some (.int .i64 (x 11)) := fun d os => cell_regrown e11 d os
  have e12' : ∀ d os, (Sort.grow (redrawn w1 d) os).cell? ⟨w.heap.size, 12, none⟩ = some (.int .i64 (x 12)) := fun d os => cell_regrown e12 d os
  refine wp_region_quiet_below (by kernel_rfl) (by kernel_rfl) ?_
  repeat (go_big_quiet_step (first
    | (go_at_call 46; exact Calls.regrown_of (HSL.out _))))
  refine wpQuiet_nil ?_
  intro w9 hw'
  obtain ⟨p, rfl⟩ := hw'
  have hb2 := hb.trans ((below_regrown w1 p.d p.os).mono hb.size)
  generalize Sort.grow (redrawn w1 p.d) p.os = w9 at *
  go_wp2
  go_ret
  exact ⟨by first | rfl | (rw [← HL.out]; rfl), hb2⟩
set_option maxHeartbeats 2000000 in
theorem ref_Free (n : Nat) (hn : n ≤ 100000) (w : World) :
    Calls Try.prog 27 #[.int .i64 n] w fun e w' => ∃ v, e = .returned v ∧ w'.ownsRow w.heap.size 3 1 v n ((List.range' 0 n).map fun (x : Nat) => Value.int .i64 (x : Int)) ∧ Below w.heap.size w w' := by
  have hinfo : (Try.prog.info? 3).map (fun i => (i.zero, i.size, i.bytes)) = some (some (.int .i64 0), 1, 8) := by kernel_rfl
  have hund : Try.prog.underlying 53 = some (.slice 3) := by kernel_rfl
  obtain ⟨i0, hi0, hz0, hz1, hz2⟩ := info_parts hinfo
  have hal : Below w.heap.size w (w.alloc (.cells #[] 3)) := (Below.refl _ _).alloc (Nat.le_refl _) _
  have hown0 : World.ownsRow (w.alloc (.cells #[] 3)) w.heap.size 3 1 (.slice (some ⟨w.heap.size, 0, none⟩) 0 0) 0 [] :=
    ⟨rfl, .inr ⟨w.heap.size, 0, #[], rfl, Nat.le_refl _, heap_alloc_new _ _, by decide, by decide, rfl, rfl⟩⟩
  have HOWN := Go.Lib.hid hown0
  have HAL := Go.Lib.hid hal
  clear hown0 hal
  go_enter Try.func27, Try.ntmps27
  go_wp2
  go_loopw [3, 4] (fun v i wr => ∃ k : Nat, k ≤ n ∧ i = .int .i64 k ∧ wr.ownsRow w.heap.size 3 1 v k ((List.range' 0 k).map fun (x : Nat) => Value.int .i64 (x : Int)) ∧ Below w.heap.size w wr) (fun _ i _ => n - (intOf i).toNat)
  case atStart => exact ⟨0, Nat.zero_le _, rfl, HOWN.out, HAL.out⟩
  case round =>
    obtain ⟨k, hk, rfl, hown, hbl⟩ := hrel
    obtain ⟨a, cap, hv⟩ := own_form hown
    subst hv
    have HB := Go.Lib.hid hbl
    have HO := Go.Lib.hid hown
    have hsz := hbl.size
    by_cases hlt : k < n
    · have hD : decide ((k : Int) < (n : Int)) = true := by simp; omega
      go_wp2_with (first
        | (at_builtin; refine wpList_append_own _ rfl _ _ 53 rfl w.heap.size 3 i0 (.int .i64 0) 1 8 hund hi0 hz0 hz1 hz2 rfl (by decide) _ _ _ rfl (hown.alloc _) ⟨_, 0, none⟩ 1 1 [.int .i64 k] rfl rfl (cell_one_new _ _ _) (by intro u hu; simp at hu; subst hu; rfl) (by unfold maxLen; omega) (by omega) (by simp; omega) ?_; intro v1 w1 hown1 hgrow1 hnil1)
        | fail)
      have hb4 : Below w.heap.size w w1 := (HB.out.alloc hsz _).grown hgrow1 (by simp; omega) (fun k h => own_ge hown h)
      refine ⟨⟨k + 1, by omega, by go_num, ?_, hb4⟩, by simp [intOf]; omega⟩
      rw [List.range'_concat, List.map_append]
      simpa using hown1
    · obtain rfl : k = n := by omega
      have hD : decide ((k : Int) < (k : Int)) = false := by simp
      go_wp2
      go_ret
      exact ⟨_, rfl, HO.out, HB.out⟩
set_option maxHeartbeats 2000000 in
theorem core_state {E : G} {L : Lab} {S : St} {w : World} (hg : Good E L S w) (n : Int) (i : Nat) (h : E.cf.state n = (i : Int)) (hi : i < S.n) :
    Calls Try.prog 33 #[.pointer (some ⟨E.k, 0, none⟩), .int .i64 n] w fun e w' => e = .returned (.agg #[.int .i64 (part (S.m i) 32 32 : Nat), .int .i64 (part (S.m i) 2 30 : Nat), .int .i64 (part (S.m i) 0 2 : Nat)]) ∧ Below w.heap.size w w' := by
  have hal : Below w.heap.size w (w.alloc (.cells #[.int .i64 0, .int .i64 0, .int .i64 0] 71)) := (Below.refl _ _).alloc (Nat.le_refl _) _
  have HG := Go.Lib.hid (hg.below hal)
  have k0 := (hg.below hal).k0
  have m64 := hg.ar.m64 i
  have HP : Hid (∀ W, PlanAt W E.p E.cf → Calls Try.prog 63 #[.pointer (some ⟨E.p, 0, none⟩), .int .i64 n] W (Qt (.int .i64 i) W)) := fun W hW => by
    have := plan_State hg.ok E.p n W hW
    rwa [h] at this
  clear hg h
  have d0 : (w.alloc (.cells #[.int .i64 0, .int .i64 0, .int .i64 0] 71)).cell? ⟨w.heap.size, 0, none⟩ = some (.int .i64 0) := by go_simp
  have g0 : (w.alloc (.cells #[.int .i64 0, .int .i64 0, .int .i64 0] 71)).frozen? ⟨w.heap.size, 0, none⟩ = false := by go_simp
  have d1 : (w.alloc (.cells #[.int .i64 0, .int .i64 0, .int .i64 0] 71)).cell? ⟨w.heap.size, 1, none⟩ = some (.int .i64 0) := by go_simp
  have g1 : (w.alloc (.cells #[.int .i64 0, .int .i64 0, .int .i64 0] 71)).frozen? ⟨w.heap.size, 1, none⟩ = false := by go_simp
  have d2 : (w.alloc (.cells #[.int .i64 0, .int .i64 0, .int .i64 0] 71)).cell? ⟨w.heap.size, 2, none⟩ = some (.int .i64 0) := by go_simp
  have g2 : (w.alloc (.cells #[.int .i64 0, .int .i64 0, .int .i64 0] 71)).frozen? ⟨w.heap.size, 2, none⟩ = false := by go_simp
  go_enter Try.func33, Try.ntmps33
  go_wp2_with fail
  generalize (w.alloc (.cells #[.int .i64 0, .int .i64 0, .int .i64 0] 71)) = W0 at *
  refine (HP.out _ HG.out.pl).mono ?_
  intro e w1 hq
  obtain ⟨rfl, hb1⟩ := hq.below
  have HG1 := Go.Lib.hid (HG.out.below hb1)
  go_wp2_with fail
  refine (core_peek HG1.out i hi).mono ?_
  rintro e w2 ⟨rfl, hb2⟩
  go_wp2_with fail
  refine (of_StateOf (S.m i) w2 m64).mono ?_
  rintro e w3 ⟨rfl, hb3⟩
  have hB1 := hal.trans (hb1.mono hal.size)
  have hB2 := hB1.trans (hb2.mono hB1.size)
  have hB3 := hB2.trans (hb3.mono hB2.size)
  have z0 := below_cell hb3 (below_cell hb2 (below_cell hb1 d0))
  have z1 := below_cell hb3 (below_cell hb2 (below_cell hb1 d1))
  have z2 := below_cell hb3 (below_cell hb2 (below_cell hb1 d2))
  have f0 := ((hb3.frozen (cell_lt (below_cell hb2 (below_cell hb1 d0)))).trans (hb2.frozen (cell_lt (below_cell hb1 d0)))).trans ((hb1.frozen (cell_lt d0)).trans g0)
  have f1 := ((hb3.frozen (cell_lt (below_cell hb2 (below_cell hb1 d1)))).trans (hb2.frozen (cell_lt (below_cell hb1 d1)))).trans ((hb1.frozen (cell_lt d1)).trans g1)
  have f2 := ((hb3.frozen (cell_lt (below_cell hb2 (below_cell hb1 d2)))).trans (hb2.frozen (cell_lt (below_cell hb1 d2)))).trans ((hb1.frozen (cell_lt d2)).trans g2)
  clear hb1 hb2 hb3 HG HG1 HP k0 hq hB1 hB2 d0 d1 d2 g0 g1 g2 hal
  go_wp2
  have hb9 : Below w.heap.size w (((w3.setCell ⟨w.heap.size, 0, none⟩ (.int .i64 (part (S.m i) 32 32 : Nat))).setCell ⟨w.heap.size, 1, none⟩ (.int .i64 (part (S.m i) 2 30 : Nat))).setCell ⟨w.heap.size, 2, none⟩ (.int .i64 (part (S.m i) 0 2 : Nat))) := ((hB3.setCell (p := ⟨w.heap.size, 0, none⟩) (Nat.le_refl _) _).setCell (p := ⟨w.heap.size, 1, none⟩) (Nat.le_refl _) _).setCell (p := ⟨w.heap.size, 2, none⟩) (Nat.le_refl _) _
  have c0 : (((w3.setCell ⟨w.heap.size, 0, none⟩ (.int .i64 (part (S.m i) 32 32 : Nat))).setCell ⟨w.heap.size, 1, none⟩ (.int .i64 (part (S.m i) 2 30 : Nat))).setCell ⟨w.heap.size, 2, none⟩ (.int .i64 (part (S.m i) 0 2 : Nat))).cell? ⟨w.heap.size, 0, none⟩ = some (.int .i64 (part (S.m i) 32 32 : Nat)) := by
    rw [World.cell?_setCell_other _ _ _ _ (by simp), World.cell?_setCell_other _ _ _ _ (by simp), World.cell?_setCell_same _ _ _ z0]
  have c1 : (((w3.setCell ⟨w.heap.size, 0, none⟩ (.int .i64 (part (S.m i) 32 32 : Nat))).setCell ⟨w.heap.size, 1, none⟩ (.int .i64 (part (S.m i) 2 30 : Nat))).setCell ⟨w.heap.size, 2, none⟩ (.int .i64 (part (S.m i) 0 2 : Nat))).cell? ⟨w.heap.size, 1, none⟩ = some (.int .i64 (part (S.m i) 2 30 : Nat)) := by
    rw [World.cell?_setCell_other _ _ _ _ (by simp), World.cell?_setCell_same _ _ _ (by rw [World.cell?_setCell_other _ _ _ _ (by simp)]; exact z1)]
  have c2 : (((w3.setCell ⟨w.heap.size, 0, none⟩ (.int .i64 (part (S.m i) 32 32 : Nat))).setCell ⟨w.heap.size, 1, none⟩ (.int .i64 (part (S.m i) 2 30 : Nat))).setCell ⟨w.heap.size, 2, none⟩ (.int .i64 (part (S.m i) 0 2 : Nat))).cell? ⟨w.heap.size, 2, none⟩ = some (.int .i64 (part (S.m i) 0 2 : Nat)) := by
    rw [World.cell?_setCell_same _ _ _ (by rw [World.cell?_setCell_other _ _ _ _ (by simp), World.cell?_setCell_other _ _ _ _ (by simp)]; exact z2)]
  generalize (((w3.setCell ⟨w.heap.size, 0, none⟩ (.int .i64 (part (S.m i) 32 32 : Nat))).setCell ⟨w.heap.size, 1, none⟩ (.int .i64 (part (S.m i) 2 30 : Nat))).setCell ⟨w.heap.size, 2, none⟩ (.int .i64 (part (S.m i) 0 2 : Nat))) = w9 at *
  exact bodyPost_ret (v := .agg #[.int .i64 (part (S.m i) 32 32 : Nat), .int .i64 (part (S.m i) 2 30 : Nat), .int .i64 (part (S.m i) 0 2 : Nat)]) (by simp [results, Try.results33, go_sem, c0, c1, c2]) rfl ⟨rfl, hb9⟩
theorem of_State0 (w : World) : Calls Try.prog 62 #[.int .u64 0] w fun e w' => e = .returned (.agg #[.int .i64 0, .int .i64 0, .int .i64 0]) ∧ Below w.heap.size w w' := of_StateOf 0 w (by decide)
set_option maxHeartbeats 2000000 in
theorem core_state_no {E : G} {L : Lab} {S : St} {w : World} (hg : Good E L S w) (n : Int) (h : E.cf.state n = -1) :
    Calls Try.prog 33 #[.pointer (some ⟨E.k, 0, none⟩), .int .i64 n] w fun e w' => e = .returned (.agg #[.int .i64 0, .int .i64 0, .int .i64 0]) ∧ Below w.heap.size w w' := by
  have hal : Below w.heap.size w (w.alloc (.cells #[.int .i64 0, .int .i64 0, .int .i64 0] 71)) := (Below.refl _ _).alloc (Nat.le_refl _) _
  have HG := Go.Lib.hid (hg.below hal)
  have k0 := (hg.below hal).k0
  have HP : Hid (∀ W, PlanAt W E.p E.cf → Calls Try.prog 63 #[.pointer (some ⟨E.p, 0, none⟩), .int .i64 n] W (Qt (.int .i64 (-1)) W)) := fun W hW => by
    have := plan_State hg.ok E.p n W hW
    rwa [h] at this
  clear hg h
  have d0 : (w.alloc (.cells #[.int .i64 0, .int .i64 0, .int .i64 0] 71)).cell? ⟨w.heap.size, 0, none⟩ = some (.int .i64 0) := by go_simp
  have g0 : (w.alloc (.cells #[.int .i64 0, .int .i64 0, .int .i64 0] 71)).frozen? ⟨w.heap.size, 0, none⟩ = false := by go_simp
  have d1 : (w.alloc (.cells #[.int .i64 0, .int .i64 0, .int .i64 0] 71)).cell? ⟨w.heap.size, 1, none⟩ = some (.int .i64 0) := by go_simp
  have g1 : (w.alloc (.cells #[.int .i64 0, .int .i64 0, .int .i64 0] 71)).frozen? ⟨w.heap.size, 1, none⟩ = false := by go_simp
  have d2 : (w.alloc (.cells #[.int .i64 0, .int .i64 0, .int .i64 0] 71)).cell? ⟨w.heap.size, 2, none⟩ = some (.int .i64 0) := by go_simp
  have g2 : (w.alloc (.cells #[.int .i64 0, .int .i64 0, .int .i64 0] 71)).frozen? ⟨w.heap.size, 2, none⟩ = false := by go_simp
  go_enter Try.func33, Try.ntmps33
  go_wp2_with fail
  generalize (w.alloc (.cells #[.int .i64 0, .int .i64 0, .int .i64 0] 71)) = W0 at *
  refine (HP.out _ HG.out.pl).mono ?_
  intro e w1 hq
  obtain ⟨rfl, hb1⟩ := hq.below
  have HG1 := Go.Lib.hid (HG.out.below hb1)
  go_wp2_with fail
  refine (core_peek_no HG1.out (-1) (by decide)).mono ?_
  rintro e w2 ⟨rfl, hw2⟩
  have hb2 : Below w1.heap.size w1 w2 := by rw [hw2]; exact Below.refl _ _
  clear hw2
  go_wp2_with fail
  refine (of_State0 w2).mono ?_
  rintro e w3 ⟨rfl, hb3⟩
  have hB1 := hal.trans (hb1.mono hal.size)
  have hB2 := hB1.trans (hb2.mono hB1.size)
  have hB3 := hB2.trans (hb3.mono hB2.size)
  have z0 := below_cell hb3 (below_cell hb2 (below_cell hb1 d0))
  have z1 := below_cell hb3 (below_cell hb2 (below_cell hb1 d1))
  have z2 := below_cell hb3 (below_cell hb2 (below_cell hb1 d2))
  have f0 := ((hb3.frozen (cell_lt (below_cell hb2 (below_cell hb1 d0)))).trans (hb2.frozen (cell_lt (below_cell hb1 d0)))).trans ((hb1.frozen (cell_lt d0)).trans g0)
  have f1 := ((hb3.frozen (cell_lt (below_cell hb2 (below_cell hb1 d1)))).trans (hb2.frozen (cell_lt (below_cell hb1 d1)))).trans ((hb1.frozen (cell_lt d1)).trans g1)
  have f2 := ((hb3.frozen (cell_lt (below_cell hb2 (below_cell hb1 d2)))).trans (hb2.frozen (cell_lt (below_cell hb1 d2)))).trans ((hb1.frozen (cell_lt d2)).trans g2)
  clear hb1 hb2 hb3 HG HG1 HP k0 hq hB1 hB2 d0 d1 d2 g0 g1 g2 hal
  go_wp2
  have hb9 : Below w.heap.size w (((w3.setCell ⟨w.heap.size, 0, none⟩ (.int .i64 0)).setCell ⟨w.heap.size, 1, none⟩ (.int .i64 0)).setCell ⟨w.heap.size, 2, none⟩ (.int .i64 0)) := ((hB3.setCell (p := ⟨w.heap.size, 0, none⟩) (Nat.le_refl _) _).setCell (p := ⟨w.heap.size, 1, none⟩) (Nat.le_refl _) _).setCell (p := ⟨w.heap.size, 2, none⟩) (Nat.le_refl _) _
  have c0 : (((w3.setCell ⟨w.heap.size, 0, none⟩ (.int .i64 0)).setCell ⟨w.heap.size, 1, none⟩ (.int .i64 0)).setCell ⟨w.heap.size, 2, none⟩ (.int .i64 0)).cell? ⟨w.heap.size, 0, none⟩ = some (.int .i64 0) := by
    rw [World.cell?_setCell_other _ _ _ _ (by simp), World.cell?_setCell_other _ _ _ _ (by simp), World.cell?_setCell_same _ _ _ z0]
  have c1 : (((w3.setCell ⟨w.heap.size, 0, none⟩ (.int .i64 0)).setCell ⟨w.heap.size, 1, none⟩ (.int .i64 0)).setCell ⟨w.heap.size, 2, none⟩ (.int .i64 0)).cell? ⟨w.heap.size, 1, none⟩ = some (.int .i64 0) := by
    rw [World.cell?_setCell_other _ _ _ _ (by simp), World.cell?_setCell_same _ _ _ (by rw [World.cell?_setCell_other _ _ _ _ (by simp)]; exact z1)]
  have c2 : (((w3.setCell ⟨w.heap.size, 0, none⟩ (.int .i64 0)).setCell ⟨w.heap.size, 1, none⟩ (.int .i64 0)).setCell ⟨w.heap.size, 2, none⟩ (.int .i64 0)).cell? ⟨w.heap.size, 2, none⟩ = some (.int .i64 0) := by
    rw [World.cell?_setCell_same _ _ _ (by rw [World.cell?_setCell_other _ _ _ _ (by simp), World.cell?_setCell_other _ _ _ _ (by simp)]; exact z2)]
  generalize (((w3.setCell ⟨w.heap.size, 0, none⟩ (.int .i64 0)).setCell ⟨w.heap.size, 1, none⟩ (.int .i64 0)).setCell ⟨w.heap.size, 2, none⟩ (.int .i64 0)) = w9 at *
  exact bodyPost_ret (v := .agg #[.int .i64 0, .int .i64 0, .int .i64 0]) (by simp [results, Try.results33, go_sem, c0, c1, c2]) rfl ⟨rfl, hb9⟩
end Go.Proofs.Ytlbjjooiiikmjaa

