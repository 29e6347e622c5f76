/- Words: several numbers in one cell. -/
import Derived.Test.YtlbjjooiiikmjaaM
namespace Go.Proofs.Ytlbjjooiiikmjaa
open Go.RowKit
set_option maxRecDepth 100000
set_option linter.unusedVariables false

theorem mask_eq (n : Nat) (h1 : 1 ≤ n) (h2 : n ≤ 64) : (18446744073709551615 : Int) / 2 ^ (64 - n) = 2 ^ n - 1 := by
  have h : ∀ m : Fin 65, 1 ≤ m.1 → (18446744073709551615 : Int) / 2 ^ (64 - m.1) = 2 ^ m.1 - 1 := by decide +kernel
  exact h ⟨n, by omega⟩ h1

set_option maxHeartbeats 400000 in
theorem mask_any (n : Nat) (w : World) (h1 : 1 ≤ n) (h2 : n ≤ 64) :
    Calls Try.prog 97 #[.int .i64 n] w fun e w' => e = .returned (.int .u64 (2 ^ n - 1)) ∧ w' = w := by
  rw [← mask_eq n h1 h2]
  go_enter Try.func97, Try.ntmps97
  go_wp2
  go_ret
  exact ⟨rfl, rfl⟩

theorem pow_le62 {n : Nat} (h : n ≤ 62) : 2 ^ n ≤ 4611686018427387904 := Nat.le_trans (Nat.pow_le_pow_right (by omega) h) (by decide)
theorem two_pow_cast (n : Nat) : ((2 : Int) ^ n - 1) = ((2 ^ n - 1 : Nat) : Int) := by
  have h : 1 ≤ 2 ^ n := Nat.one_le_two_pow
  rw [Int.natCast_sub h]; simp
theorem part_eq (x s n : Nat) (hx : x < 18446744073709551616) (hn : n ≤ 62) :
    wrap64 (bits BinOp.and IntKind.u64 ((x : Int) / 2 ^ s) (2 ^ n - 1)) = ((x / 2 ^ s % 2 ^ n : Nat) : Int) := by
  have h1 : x / 2 ^ s ≤ x := Nat.div_le_self _ _
  have h2 := pow_le62 hn
  have e : ((x : Int) / 2 ^ s) = ((x / 2 ^ s : Nat) : Int) := by simp
  rw [e, two_pow_cast, u64_and_nat _ _ (by omega) (by omega), Nat.and_two_pow_sub_one_eq_mod]
  have h3 : x / 2 ^ s % 2 ^ n < 2 ^ n := Nat.mod_lt _ (Nat.two_pow_pos n)
  exact IntWalk.wrap64_in _ (by omega)

set_option maxHeartbeats 1000000 in
theorem spread2 (x n0 n1 b cap : Nat) (w : World) (hx : x < 18446744073709551616) (h0 : 1 ≤ n0) (m0 : n0 ≤ 62) (h1 : 1 ≤ n1) (m1 : n1 ≤ 62) (hs : n0 + n1 ≤ 64)
    (hc0 : w.cell? ⟨b, 0, none⟩ = some (.int .i64 n0)) (hc1 : w.cell? ⟨b, 1, none⟩ = some (.int .i64 n1)) :
    Calls Try.prog 80 #[.int .u64 x, .slice (some ⟨b, 0, none⟩) 2 cap] w fun e w' =>
      e = .returned (.agg #[.int .i64 (x / 2 ^ (64 - n0) % 2 ^ n0 : Nat), .int .i64 (x / 2 ^ (64 - n0 - n1) % 2 ^ n1 : Nat), .int .i64 0, .int .i64 0]) ∧ Below w.heap.size w w' := by
  have hb : b < w.heap.size := cell_lt hc0
  have P0 := Go.Lib.hid (part_eq x (64 - n0) n0 hx (by omega))
  have P1 := Go.Lib.hid (part_eq x (64 - n0 - n1) n1 hx (by omega))
  go_enter Try.func80, Try.ntmps80
  go_wp2
  refine wp_loop_rounds 3 ?_
  rw [rounds_succ]
  go_wp2
  go_still_tail 9, (by kernel_rfl)
  still_call (mask_any n0 _ h0 (by omega))
  repeat still_step
  refine wpStill_nil ?_
  change wpList _ _ _ _ _ (World.drew _)
  go_wp2
  rw [rounds_succ]
  go_wp2
  go_still_tail 9, (by kernel_rfl)
  still_call (mask_any n1 _ h1 (by omega))
  repeat still_step
  refine wpStill_nil ?_
  change wpList _ _ _ _ _ (World.drew _)
  go_wp2
  rw [rounds_succ]
  go_wp2
  refine bodyPost_ret (v := .agg #[.int .i64 (wrap64 (bits BinOp.and IntKind.u64 ((x : Int) / 2 ^ (64 - n0)) (2 ^ n0 - 1))), .int .i64 (wrap64 (bits BinOp.and IntKind.u64 ((x : Int) / 2 ^ (64 - n0 - n1)) (2 ^ n1 - 1))), .int .i64 0, .int .i64 0]) (by simp [results, Try.results80, go_sem]) rfl ⟨?_, ?_⟩
  · rw [P0.out, P1.out]
  · exact ((((Below.refl _ _).alloc (Nat.le_refl _) _).drew.drew))

set_option maxHeartbeats 1000000 in
theorem spread3 (x n0 n1 n2 b cap : Nat) (w : World) (hx : x < 18446744073709551616) (h0 : 1 ≤ n0) (h1 : 1 ≤ n1) (h2 : 1 ≤ n2) (hs : n0 + n1 + n2 ≤ 64)
    (hc0 : w.cell? ⟨b, 0, none⟩ = some (.int .i64 n0)) (hc1 : w.cell? ⟨b, 1, none⟩ = some (.int .i64 n1)) (hc2 : w.cell? ⟨b, 2, none⟩ = some (.int .i64 n2)) :
    Calls Try.prog 80 #[.int .u64 x, .slice (some ⟨b, 0, none⟩) 3 cap] w fun e w' =>
      e = .returned (.agg #[.int .i64 (x / 2 ^ (64 - n0) % 2 ^ n0 : Nat), .int .i64 (x / 2 ^ (64 - n0 - n1) % 2 ^ n1 : Nat), .int .i64 (x / 2 ^ (64 - n0 - n1 - n2) % 2 ^ n2 : Nat), .int .i64 0]) ∧ Below w.heap.size w w' := by
  have hb : b < w.heap.size := cell_lt hc0
  have P0 := Go.Lib.hid (part_eq x (64 - n0) n0 hx (by omega))
  have P1 := Go.Lib.hid (part_eq x (64 - n0 - n1) n1 hx (by omega))
  have P2 := Go.Lib.hid (part_eq x (64 - n0 - n1 - n2) n2 hx (by omega))
  go_enter Try.func80, Try.ntmps80
  go_wp2
  refine wp_loop_rounds 4 ?_
  rw [rounds_succ]
  go_wp2
  go_still_tail 9, (by kernel_rfl)
  still_call (mask_any n0 _ h0 (by omega))
  repeat still_step
  refine wpStill_nil ?_
  change wpList _ _ _ _ _ (World.drew _)
  go_wp2
  rw [rounds_succ]
  go_wp2
  go_still_tail 9, (by kernel_rfl)
  still_call (mask_any n1 _ h1 (by omega))
  repeat still_step
  refine wpStill_nil ?_
  change wpList _ _ _ _ _ (World.drew _)
  go_wp2
  rw [rounds_succ]
  go_wp2
  go_still_tail 9, (by kernel_rfl)
  still_call (mask_any n2 _ h2 (by omega))
  repeat still_step
  refine wpStill_nil ?_
  change wpList _ _ _ _ _ (World.drew _)
  go_wp2
  rw [rounds_succ]
  go_wp2
  refine bodyPost_ret (v := .agg #[.int .i64 (wrap64 (bits BinOp.and IntKind.u64 ((x : Int) / 2 ^ (64 - n0)) (2 ^ n0 - 1))), .int .i64 (wrap64 (bits BinOp.and IntKind.u64 ((x : Int) / 2 ^ (64 - n0 - n1)) (2 ^ n1 - 1))), .int .i64 (wrap64 (bits BinOp.and IntKind.u64 ((x : Int) / 2 ^ (64 - n0 - n1 - n2)) (2 ^ n2 - 1))), .int .i64 0]) (by simp [results, Try.results80, go_sem]) rfl ⟨?_, ?_⟩
  · rw [P0.out, P1.out, P2.out]
  · exact ((((Below.refl _ _).alloc (Nat.le_refl _) _).drew.drew.drew))

set_option maxHeartbeats 1000000 in
theorem spread4 (x n0 n1 n2 n3 b cap : Nat) (w : World) (hx : x < 18446744073709551616) (h0 : 1 ≤ n0) (h1 : 1 ≤ n1) (h2 : 1 ≤ n2) (h3 : 1 ≤ n3) (hs : n0 + n1 + n2 + n3 ≤ 64)
    (hc0 : w.cell? ⟨b, 0, none⟩ = some (.int .i64 n0)) (hc1 : w.cell? ⟨b, 1, none⟩ = some (.int .i64 n1)) (hc2 : w.cell? ⟨b, 2, none⟩ = some (.int .i64 n2)) (hc3 : w.cell? ⟨b, 3, none⟩ = some (.int .i64 n3)) :
    Calls Try.prog 80 #[.int .u64 x, .slice (some ⟨b, 0, none⟩) 4 cap] w fun e w' =>
      e = .returned (.agg #[.int .i64 (x / 2 ^ (64 - n0) % 2 ^ n0 : Nat), .int .i64 (x / 2 ^ (64 - n0 - n1) % 2 ^ n1 : Nat), .int .i64 (x / 2 ^ (64 - n0 - n1 - n2) % 2 ^ n2 : Nat), .int .i64 (x / 2 ^ (64 - n0 - n1 - n2 - n3) % 2 ^ n3 : Nat)]) ∧ Below w.heap.size w w' := by
  have hb : b < w.heap.size := cell_lt hc0
  have P0 := Go.Lib.hid (part_eq x (64 - n0) n0 hx (by omega))
  have P1 := Go.Lib.hid (part_eq x (64 - n0 - n1) n1 hx (by omega))
  have P2 := Go.Lib.hid (part_eq x (64 - n0 - n1 - n2) n2 hx (by omega))
  have P3 := Go.Lib.hid (part_eq x (64 - n0 - n1 - n2 - n3) n3 hx (by omega))
  go_enter Try.func80, Try.ntmps80
  go_wp2
  refine wp_loop_rounds 5 ?_
  rw [rounds_succ]
  go_wp2
  go_still_tail 9, (by kernel_rfl)
  still_call (mask_any n0 _ h0 (by omega))
  repeat still_step
  refine wpStill_nil ?_
  change wpList _ _ _ _ _ (World.drew _)
  go_wp2
  rw [rounds_succ]
  go_wp2
  go_still_tail 9, (by kernel_rfl)
  still_call (mask_any n1 _ h1 (by omega))
  repeat still_step
  refine wpStill_nil ?_
  change wpList _ _ _ _ _ (World.drew _)
  go_wp2
  rw [rounds_succ]
  go_wp2
  go_still_tail 9, (by kernel_rfl)
  still_call (mask_any n2 _ h2 (by omega))
  repeat still_step
  refine wpStill_nil ?_
  change wpList _ _ _ _ _ (World.drew _)
  go_wp2
  rw [rounds_succ]
  go_wp2
  go_still_tail 9, (by kernel_rfl)
  still_call (mask_any n3 _ h3 (by omega))
  repeat still_step
  refine wpStill_nil ?_
  change wpList _ _ _ _ _ (World.drew _)
  go_wp2
  rw [rounds_succ]
  go_wp2
  refine bodyPost_ret (v := .agg #[.int .i64 (wrap64 (bits BinOp.and IntKind.u64 ((x : Int) / 2 ^ (64 - n0)) (2 ^ n0 - 1))), .int .i64 (wrap64 (bits BinOp.and IntKind.u64 ((x : Int) / 2 ^ (64 - n0 - n1)) (2 ^ n1 - 1))), .int .i64 (wrap64 (bits BinOp.and IntKind.u64 ((x : Int) / 2 ^ (64 - n0 - n1 - n2)) (2 ^ n2 - 1))), .int .i64 (wrap64 (bits BinOp.and IntKind.u64 ((x : Int) / 2 ^ (64 - n0 - n1 - n2 - n3)) (2 ^ n3 - 1)))]) (by simp [results, Try.results80, go_sem]) rfl ⟨?_, ?_⟩
  · rw [P0.out, P1.out, P2.out, P3.out]
  · exact ((((Below.refl _ _).alloc (Nat.le_refl _) _).drew.drew.drew.drew))

theorem bcells {W w1 : World} (hb : Below W.heap.size W w1) : (∀ b o, b < W.heap.size → w1.cell? ⟨b, o, none⟩ = W.cell? ⟨b, o, none⟩) ∧ (∀ b o, b < W.heap.size → w1.frozen? ⟨b, o, none⟩ = W.frozen? ⟨b, o, none⟩) :=
  ⟨fun b o h => hb.cell (p := ⟨b, o, none⟩) h, fun b o h => hb.frozen (p := ⟨b, o, none⟩) h⟩

set_option maxHeartbeats 1000000 in
theorem of_KeyOf (x : Nat) (w : World) (hx : x < 18446744073709551616) :
    Calls Try.prog 86 #[.int .u64 x] w fun e w' => e = .returned (.agg #[.int .i64 (part x 32 32 : Nat), .int .i64 (part x 16 16 : Nat), .int .i64 (part x 0 16 : Nat)]) ∧ Below w.heap.size w w' := by
  go_enter Try.func86, Try.ntmps86
  go_wp2_with fail
  refine (spread3 x 32 16 16 _ _ _ hx (by omega) (by omega) (by omega) (by omega) (by go_simp) (by go_simp) (by go_simp)).mono ?_
  rintro e w' ⟨rfl, hb⟩
  obtain ⟨hc, hf⟩ := bcells hb
  have hz : w.heap.size + 1 < w'.heap.size := by have := hb.size; simp at this; omega
  have hz1 : w.heap.size < w'.heap.size := by omega
  have k0 : w'.cell? ⟨w.heap.size, 0, none⟩ = some (.int .i64 0) := by rw [hc _ _ (by simp; omega)]; go_simp
  have f0 : w'.frozen? ⟨w.heap.size, 0, none⟩ = false := by rw [hf _ _ (by simp; omega)]; go_simp
  have k1 : w'.cell? ⟨w.heap.size, 1, none⟩ = some (.int .i64 0) := by rw [hc _ _ (by simp; omega)]; go_simp
  have f1 : w'.frozen? ⟨w.heap.size, 1, none⟩ = false := by rw [hf _ _ (by simp; omega)]; go_simp
  have k2 : w'.cell? ⟨w.heap.size, 2, none⟩ = some (.int .i64 0) := by rw [hc _ _ (by simp; omega)]; go_simp
  have f2 : w'.frozen? ⟨w.heap.size, 2, none⟩ = false := by rw [hf _ _ (by simp; omega)]; go_simp
  clear hc hf
  have hbe : Below w.heap.size w w' := (((Below.refl _ _).alloc (Nat.le_refl _) _).alloc (by simp) _).trans (hb.mono (by simp; omega))
  clear hb
  have HB := Go.Lib.hid hbe
  clear hbe
  go_wp2
  refine bodyPost_ret (v := .agg #[.int .i64 (part x 32 32 : Nat), .int .i64 (part x 16 16 : Nat), .int .i64 (part x 0 16 : Nat)]) (by simp [results, Try.results86, go_sem, part, k0, k1, k2, hz1]) rfl ⟨rfl, ?_⟩
  exact ((((HB.out.setCell (by simp) _).setCell (by simp) _).setCell (by simp) _)).alloc (by simp; omega) _

set_option maxHeartbeats 1000000 in
theorem of_StateOf (x : Nat) (w : World) (hx : x < 18446744073709551616) :
    Calls Try.prog 62 #[.int .u64 x] w fun e w' => e = .returned (.agg #[.int .i64 (part x 32 32 : Nat), .int .i64 (part x 2 30 : Nat), .int .i64 (part x 0 2 : Nat)]) ∧ Below w.heap.size w w' := by
  go_enter Try.func62, Try.ntmps62
  go_wp2_with fail
  refine (spread3 x 32 30 2 _ _ _ hx (by omega) (by omega) (by omega) (by omega) (by go_simp) (by go_simp) (by go_simp)).mono ?_
  rintro e w' ⟨rfl, hb⟩
  obtain ⟨hc, hf⟩ := bcells hb
  have hz : w.heap.size + 1 < w'.heap.size := by have := hb.size; simp at this; omega
  have hz1 : w.heap.size < w'.heap.size := by omega
  have k0 : w'.cell? ⟨w.heap.size, 0, none⟩ = some (.int .i64 0) := by rw [hc _ _ (by simp; omega)]; go_simp
  have f0 : w'.frozen? ⟨w.heap.size, 0, none⟩ = false := by rw [hf _ _ (by simp; omega)]; go_simp
  have k1 : w'.cell? ⟨w.heap.size, 1, none⟩ = some (.int .i64 0) := by rw [hc _ _ (by simp; omega)]; go_simp
  have f1 : w'.frozen? ⟨w.heap.size, 1, none⟩ = false := by rw [hf _ _ (by simp; omega)]; go_simp
  have k2 : w'.cell? ⟨w.heap.size, 2, none⟩ = some (.int .i64 0) := by rw [hc _ _ (by simp; omega)]; go_simp
  have f2 : w'.frozen? ⟨w.heap.size, 2, none⟩ = false := by rw [hf _ _ (by simp; omega)]; go_simp
  clear hc hf
  have hbe : Below w.heap.size w w' := (((Below.refl _ _).alloc (Nat.le_refl _) _).alloc (by simp) _).trans (hb.mono (by simp; omega))
  clear hb
  have HB := Go.Lib.hid hbe
  clear hbe
  go_wp2
  refine bodyPost_ret (v := .agg #[.int .i64 (part x 32 32 : Nat), .int .i64 (part x 2 30 : Nat), .int .i64 (part x 0 2 : Nat)]) (by simp [results, Try.results62, go_sem, part, k0, k1, k2, hz1]) rfl ⟨rfl, ?_⟩
  exact ((((HB.out.setCell (by simp) _).setCell (by simp) _).setCell (by simp) _)).alloc (by simp; omega) _

set_option maxHeartbeats 1000000 in
theorem of_HeadOf (x : Nat) (w : World) (hx : x < 18446744073709551616) :
    Calls Try.prog 50 #[.int .u64 x] w fun e w' => e = .returned (.agg #[.int .i64 (part x 32 32 : Nat), .int .i64 ((part x 0 32 : Nat) - 1 : Int)]) ∧ Below w.heap.size w w' := by
  go_enter Try.func50, Try.ntmps50
  go_wp2_with fail
  refine (spread2 x 32 32 _ _ _ hx (by omega) (by omega) (by omega) (by omega) (by omega) (by go_simp) (by go_simp)).mono ?_
  rintro e w' ⟨rfl, hb⟩
  obtain ⟨hc, hf⟩ := bcells hb
  have hz : w.heap.size + 1 < w'.heap.size := by have := hb.size; simp at this; omega
  have hz1 : w.heap.size < w'.heap.size := by omega
  have k0 : w'.cell? ⟨w.heap.size, 0, none⟩ = some (.int .i64 0) := by rw [hc _ _ (by simp; omega)]; go_simp
  have f0 : w'.frozen? ⟨w.heap.size, 0, none⟩ = false := by rw [hf _ _ (by simp; omega)]; go_simp
  have k1 : w'.cell? ⟨w.heap.size, 1, none⟩ = some (.int .i64 0) := by rw [hc _ _ (by simp; omega)]; go_simp
  have f1 : w'.frozen? ⟨w.heap.size, 1, none⟩ = false := by rw [hf _ _ (by simp; omega)]; go_simp
  clear hc hf
  have hbe : Below w.heap.size w w' := (((Below.refl _ _).alloc (Nat.le_refl _) _).alloc (by simp) _).trans (hb.mono (by simp; omega))
  clear hb
  have HB := Go.Lib.hid hbe
  clear hbe
  go_wp2
  refine bodyPost_ret (v := .agg #[.int .i64 (part x 32 32 : Nat), .int .i64 ((part x 0 32 : Nat) - 1 : Int)]) (by simp [results, Try.results50, go_sem, part, k0, k1, hz1]) rfl ⟨rfl, ?_⟩
  exact (((HB.out.setCell (by simp) _).setCell (by simp) _)).alloc (by simp; omega) _

end Go.Proofs.Ytlbjjooiiikmjaa
