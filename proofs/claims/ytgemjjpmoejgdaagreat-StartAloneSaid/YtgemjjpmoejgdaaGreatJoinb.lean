/- Words: several numbers in one cell. -/
import Derived.Test.YtgemjjpmoejgdaaGreatJoina
import Derived.Deep.RegionWith
import Derived.Deep.RegionHeld3
import Derived.Laws.EntriesVeiled
namespace Go.Proofs.YtgemjjpmoejgdaaGreat
open Go.RowKit
set_option maxRecDepth 100000
set_option linter.unusedVariables false

theorem mask_eq (n : Nat) (h1 : 1 ≤ n) (h2 : n ≤ 64) : (18446744073709551615 : Int) / 2 ^ (64 - n) = 2 ^ n - 1 := by
  have h : ∀ m : Fin 65, 1 ≤ m.1 → (18446744073709551615 : Int) / 2 ^ (64 - m.1) = 2 ^ m.1 - 1 := by decide +kernel
  exact h ⟨n, by omega⟩ h1

set_option maxHeartbeats 400000 in
theorem mask_any (n : Nat) (w : World) (h1 : 1 ≤ n) (h2 : n ≤ 64) :
    Calls Tryz.prog 219 #[.int .i64 n] w fun e w' => e = .returned (.int .u64 (2 ^ n - 1)) ∧ w' = w := by
  rw [← mask_eq n h1 h2]
  go_enter Tryz.func219, Tryz.ntmps219
  go_wp2
  go_ret
  exact ⟨rfl, rfl⟩

theorem pow_le62 {n : Nat} (h : n ≤ 62) : 2 ^ n ≤ 4611686018427387904 := Nat.le_trans (Nat.pow_le_pow_right (by omega) h) (by decide)
theorem two_pow_cast (n : Nat) : ((2 : Int) ^ n - 1) = ((2 ^ n - 1 : Nat) : Int) := by
  have h : 1 ≤ 2 ^ n := Nat.one_le_two_pow
  rw [Int.natCast_sub h]; simp
theorem part_eq (x s n : Nat) (hx : x < 18446744073709551616) (hn : n ≤ 62) :
    wrap64 (bits BinOp.and IntKind.u64 ((x : Int) / 2 ^ s) (2 ^ n - 1)) = ((x / 2 ^ s % 2 ^ n : Nat) : Int) := by
  have h1 : x / 2 ^ s ≤ x := Nat.div_le_self _ _
  have h2 := pow_le62 hn
  have e : ((x : Int) / 2 ^ s) = ((x / 2 ^ s : Nat) : Int) := by simp
  rw [e, two_pow_cast, u64_and_nat _ _ (by omega) (by omega), Nat.and_two_pow_sub_one_eq_mod]
  have h3 : x / 2 ^ s % 2 ^ n < 2 ^ n := Nat.mod_lt _ (Nat.two_pow_pos n)
  exact IntWalk.wrap64_in _ (by omega)

set_option maxHeartbeats 1000000 in
theorem spread2 (x n0 n1 b cap : Nat) (w : World) (hx : x < 18446744073709551616) (h0 : 1 ≤ n0) (m0 : n0 ≤ 62) (h1 : 1 ≤ n1) (m1 : n1 ≤ 62) (hs : n0 + n1 ≤ 64)
    (hc0 : w.cell? ⟨b, 0, none⟩ = some (.int .i64 n0)) (hc1 : w.cell? ⟨b, 1, none⟩ = some (.int .i64 n1)) :
    Calls Tryz.prog 145 #[.int .u64 x, .slice (some ⟨b, 0, none⟩) 2 cap] w fun e w' =>
      e = .returned (.agg #[.int .i64 (x / 2 ^ (64 - n0) % 2 ^ n0 : Nat), .int .i64 (x / 2 ^ (64 - n0 - n1) % 2 ^ n1 : Nat), .int .i64 0, .int .i64 0]) ∧ Below w.heap.size w w' := by
  have hb : b < w.heap.size := cell_lt hc0
  have P0 := Go.Lib.hid (part_eq x (64 - n0) n0 hx (by omega))
  have P1 := Go.Lib.hid (part_eq x (64 - n0 - n1) n1 hx (by omega))
  go_enter Tryz.func145, Tryz.ntmps145
  go_wp2
  refine wp_loop_rounds 3 ?_
  rw [rounds_succ]
  go_wp2
  go_still_tail 9, (by kernel_rfl)
  still_call (mask_any n0 _ h0 (by omega))
  repeat still_step
  refine wpStill_nil ?_
  change wpList _ _ _ _ _ (World.drew _)
  go_wp2
  rw [rounds_succ]
  go_wp2
  go_still_tail 9, (by kernel_rfl)
  still_call (mask_any n1 _ h1 (by omega))
  repeat still_step
  refine wpStill_nil ?_
  change wpList _ _ _ _ _ (World.drew _)
  go_wp2
  rw [rounds_succ]
  go_wp2
  refine bodyPost_ret (v := .agg #[.int .i64 (wrap64 (bits BinOp.and IntKind.u64 ((x : Int) / 2 ^ (64 - n0)) (2 ^ n0 - 1))), .int .i64 (wrap64 (bits BinOp.and IntKind.u64 ((x : Int) / 2 ^ (64 - n0 - n1)) (2 ^ n1 - 1))), .int .i64 0, .int .i64 0]) (by simp [results, Tryz.results145, go_sem]) rfl ⟨?_, ?_⟩
  · rw [P0.out, P1.out]
  · exact ((((Below.refl _ _).alloc (Nat.le_refl _) _).drew.drew))

set_option maxHeartbeats 1000000 in
theorem spread3 (x n0 n1 n2 b cap : Nat) (w : World) (hx : x < 18446744073709551616) (h0 : 1 ≤ n0) (h1 : 1 ≤ n1) (h2 : 1 ≤ n2) (hs : n0 + n1 + n2 ≤ 64)
    (hc0 : w.cell? ⟨b, 0, none⟩ = some (.int .i64 n0)) (hc1 : w.cell? ⟨b, 1, none⟩ = some (.int .i64 n1)) (hc2 : w.cell? ⟨b, 2, none⟩ = some (.int .i64 n2)) :
    Calls Tryz.prog 145 #[.int .u64 x, .slice (some ⟨b, 0, none⟩) 3 cap] w fun e w' =>
      e = .returned (.agg #[.int .i64 (x / 2 ^ (64 - n0) % 2 ^ n0 : Nat), .int .i64 (x / 2 ^ (64 - n0 - n1) % 2 ^ n1 : Nat), .int .i64 (x / 2 ^ (64 - n0 - n1 - n2) % 2 ^ n2 : Nat), .int .i64 0]) ∧ Below w.heap.size w w' := by
  have hb : b < w.heap.size := cell_lt hc0
  have P0 := Go.Lib.hid (part_eq x (64 - n0) n0 hx (by omega))
  have P1 := Go.Lib.hid (part_eq x (64 - n0 - n1) n1 hx (by omega))
  have P2 := Go.Lib.hid (part_eq x (64 - n0 - n1 - n2) n2 hx (by omega))
  go_enter Tryz.func145, Tryz.ntmps145
  go_wp2
  refine wp_loop_rounds 4 ?_
  rw [rounds_succ]
  go_wp2
  go_still_tail 9, (by kernel_rfl)
  still_call (mask_any n0 _ h0 (by omega))
  repeat still_step
  refine wpStill_nil ?_
  change wpList _ _ _ _ _ (World.drew _)
  go_wp2
  rw [rounds_succ]
  go_wp2
  go_still_tail 9, (by kernel_rfl)
  still_call (mask_any n1 _ h1 (by omega))
  repeat still_step
  refine wpStill_nil ?_
  change wpList _ _ _ _ _ (World.drew _)
  go_wp2
  rw [rounds_succ]
  go_wp2
  go_still_tail 9, (by kernel_rfl)
  still_call (mask_any n2 _ h2 (by omega))
  repeat still_step
  refine wpStill_nil ?_
  change wpList _ _ _ _ _ (World.drew _)
  go_wp2
  rw [rounds_succ]
  go_wp2
  refine bodyPost_ret (v := .agg #[.int .i64 (wrap64 (bits BinOp.and IntKind.u64 ((x : Int) / 2 ^ (64 - n0)) (2 ^ n0 - 1))), .int .i64 (wrap64 (bits BinOp.and IntKind.u64 ((x : Int) / 2 ^ (64 - n0 - n1)) (2 ^ n1 - 1))), .int .i64 (wrap64 (bits BinOp.and IntKind.u64 ((x : Int) / 2 ^ (64 - n0 - n1 - n2)) (2 ^ n2 - 1))), .int .i64 0]) (by simp [results, Tryz.results145, go_sem]) rfl ⟨?_, ?_⟩
  · rw [P0.out, P1.out, P2.out]
  · exact ((((Below.refl _ _).alloc (Nat.le_refl _) _).drew.drew.drew))

theorem bcells {W w1 : World} (hb : Below W.heap.size W w1) : (∀ b o, b < W.heap.size → w1.cell? ⟨b, o, none⟩ = W.cell? ⟨b, o, none⟩) ∧ (∀ b o, b < W.heap.size → w1.frozen? ⟨b, o, none⟩ = W.frozen? ⟨b, o, none⟩) :=
  ⟨fun b o h => hb.cell (p := ⟨b, o, none⟩) h, fun b o h => hb.frozen (p := ⟨b, o, none⟩) h⟩

set_option maxHeartbeats 1000000 in
theorem of_KeyOf (x : Nat) (w : World) (hx : x < 18446744073709551616) :
    Calls Tryz.prog 49 #[.int .u64 x] w fun e w' => e = .returned (.agg #[.int .i64 (part x 32 32 : Nat), .int .i64 (part x 16 16 : Nat), .int .i64 (part x 0 16 : Nat)]) ∧ Below w.heap.size w w' := by
  go_enter Tryz.func49, Tryz.ntmps49
  go_wp2_with fail
  refine (spread3 x 32 16 16 _ _ _ hx (by omega) (by omega) (by omega) (by omega) (by go_simp) (by go_simp) (by go_simp)).mono ?_
  rintro e w' ⟨rfl, hb⟩
  obtain ⟨hc, hf⟩ := bcells hb
  have hz : w.heap.size + 1 < w'.heap.size := by have := hb.size; simp at this; omega
  have hz1 : w.heap.size < w'.heap.size := by omega
  have k0 : w'.cell? ⟨w.heap.size, 0, none⟩ = some (.int .i64 0) := by rw [hc _ _ (by simp; omega)]; go_simp
  have f0 : w'.frozen? ⟨w.heap.size, 0, none⟩ = false := by rw [hf _ _ (by simp; omega)]; go_simp
  have k1 : w'.cell? ⟨w.heap.size, 1, none⟩ = some (.int .i64 0) := by rw [hc _ _ (by simp; omega)]; go_simp
  have f1 : w'.frozen? ⟨w.heap.size, 1, none⟩ = false := by rw [hf _ _ (by simp; omega)]; go_simp
  have k2 : w'.cell? ⟨w.heap.size, 2, none⟩ = some (.int .i64 0) := by rw [hc _ _ (by simp; omega)]; go_simp
  have f2 : w'.frozen? ⟨w.heap.size, 2, none⟩ = false := by rw [hf _ _ (by simp; omega)]; go_simp
  clear hc hf
  have hbe : Below w.heap.size w w' := (((Below.refl _ _).alloc (Nat.le_refl _) _).alloc (by simp) _).trans (hb.mono (by simp; omega))
  clear hb
  have HB := Go.Lib.hid hbe
  clear hbe
  go_wp2
  refine bodyPost_ret (v := .agg #[.int .i64 (part x 32 32 : Nat), .int .i64 (part x 16 16 : Nat), .int .i64 (part x 0 16 : Nat)]) (by simp [results, Tryz.results49, go_sem, part, k0, k1, k2, hz1]) rfl ⟨rfl, ?_⟩
  exact ((((HB.out.setCell (by simp) _).setCell (by simp) _).setCell (by simp) _)).alloc (by simp; omega) _

set_option maxHeartbeats 1000000 in
theorem of_StateOf (x : Nat) (w : World) (hx : x < 18446744073709551616) :
    Calls Tryz.prog 152 #[.int .u64 x] w fun e w' => e = .returned (.agg #[.int .i64 (part x 32 32 : Nat), .int .i64 (part x 2 30 : Nat), .int .i64 (part x 0 2 : Nat)]) ∧ Below w.heap.size w w' := by
  go_enter Tryz.func152, Tryz.ntmps152
  go_wp2_with fail
  refine (spread3 x 32 30 2 _ _ _ hx (by omega) (by omega) (by omega) (by omega) (by go_simp) (by go_simp) (by go_simp)).mono ?_
  rintro e w' ⟨rfl, hb⟩
  obtain ⟨hc, hf⟩ := bcells hb
  have hz : w.heap.size + 1 < w'.heap.size := by have := hb.size; simp at this; omega
  have hz1 : w.heap.size < w'.heap.size := by omega
  have k0 : w'.cell? ⟨w.heap.size, 0, none⟩ = some (.int .i64 0) := by rw [hc _ _ (by simp; omega)]; go_simp
  have f0 : w'.frozen? ⟨w.heap.size, 0, none⟩ = false := by rw [hf _ _ (by simp; omega)]; go_simp
  have k1 : w'.cell? ⟨w.heap.size, 1, none⟩ = some (.int .i64 0) := by rw [hc _ _ (by simp; omega)]; go_simp
  have f1 : w'.frozen? ⟨w.heap.size, 1, none⟩ = false := by rw [hf _ _ (by simp; omega)]; go_simp
  have k2 : w'.cell? ⟨w.heap.size, 2, none⟩ = some (.int .i64 0) := by rw [hc _ _ (by simp; omega)]; go_simp
  have f2 : w'.frozen? ⟨w.heap.size, 2, none⟩ = false := by rw [hf _ _ (by simp; omega)]; go_simp
  clear hc hf
  have hbe : Below w.heap.size w w' := (((Below.refl _ _).alloc (Nat.le_refl _) _).alloc (by simp) _).trans (hb.mono (by simp; omega))
  clear hb
  have HB := Go.Lib.hid hbe
  clear hbe
  go_wp2
  refine bodyPost_ret (v := .agg #[.int .i64 (part x 32 32 : Nat), .int .i64 (part x 2 30 : Nat), .int .i64 (part x 0 2 : Nat)]) (by simp [results, Tryz.results152, go_sem, part, k0, k1, k2, hz1]) rfl ⟨rfl, ?_⟩
  exact ((((HB.out.setCell (by simp) _).setCell (by simp) _).setCell (by simp) _)).alloc (by simp; omega) _

set_option maxHeartbeats 1000000 in
theorem of_HeadOf (x : Nat) (w : World) (hx : x < 18446744073709551616) :
    Calls Tryz.prog 102 #[.int .u64 x] w fun e w' => e = .returned (.agg #[.int .i64 (part x 32 32 : Nat), .int .i64 ((part x 0 32 : Nat) - 1 : Int)]) ∧ Below w.heap.size w w' := by
  go_enter Tryz.func102, Tryz.ntmps102
  go_wp2_with fail
  refine (spread2 x 32 32 _ _ _ hx (by omega) (by omega) (by omega) (by omega) (by omega) (by go_simp) (by go_simp)).mono ?_
  rintro e w' ⟨rfl, hb⟩
  obtain ⟨hc, hf⟩ := bcells hb
  have hz : w.heap.size + 1 < w'.heap.size := by have := hb.size; simp at this; omega
  have hz1 : w.heap.size < w'.heap.size := by omega
  have k0 : w'.cell? ⟨w.heap.size, 0, none⟩ = some (.int .i64 0) := by rw [hc _ _ (by simp; omega)]; go_simp
  have f0 : w'.frozen? ⟨w.heap.size, 0, none⟩ = false := by rw [hf _ _ (by simp; omega)]; go_simp
  have k1 : w'.cell? ⟨w.heap.size, 1, none⟩ = some (.int .i64 0) := by rw [hc _ _ (by simp; omega)]; go_simp
  have f1 : w'.frozen? ⟨w.heap.size, 1, none⟩ = false := by rw [hf _ _ (by simp; omega)]; go_simp
  clear hc hf
  have hbe : Below w.heap.size w w' := (((Below.refl _ _).alloc (Nat.le_refl _) _).alloc (by simp) _).trans (hb.mono (by simp; omega))
  clear hb
  have HB := Go.Lib.hid hbe
  clear hbe
  go_wp2
  refine bodyPost_ret (v := .agg #[.int .i64 (part x 32 32 : Nat), .int .i64 ((part x 0 32 : Nat) - 1 : Int)]) (by simp [results, Tryz.results102, go_sem, part, k0, k1, hz1]) rfl ⟨rfl, ?_⟩
  exact (((HB.out.setCell (by simp) _).setCell (by simp) _)).alloc (by simp; omega) _

end Go.Proofs.YtgemjjpmoejgdaaGreat
/- Words: laying numbers into one. -/
namespace Go.Proofs.YtgemjjpmoejgdaaGreat
open Go.RowKit
set_option maxRecDepth 100000
set_option linter.unusedVariables false

def allFit (ws : List Nat) (ns : List Int) (k : Nat) : Prop := ∀ j, j < k → 0 ≤ ns.getD j 0 ∧ ns.getD j 0 < 2 ^ ws.getD j 0

theorem wsum_succ (ws : List Nat) (k : Nat) (h : k < ws.length) : wsum ws (k + 1) = wsum ws k + ws.getD k 0 := by
  unfold wsum
  rw [List.take_succ_eq_append_getElem h, List.sum_append]
  simp [h]
theorem packAcc_dvd (ws : List Nat) (ns : List Int) (hw : ∀ k, k ≤ ws.length → wsum ws k ≤ 64) : ∀ k, k ≤ ws.length → ∃ q, packAcc ws ns k = 2 ^ (64 - wsum ws k) * q
  | 0, _ => ⟨0, rfl⟩
  | k + 1, h => by
    obtain ⟨q, hq⟩ := packAcc_dvd ws ns hw k (by omega)
    have h1 := wsum_succ ws k (by omega)
    have h2 := hw (k + 1) h
    refine ⟨2 ^ ws.getD k 0 * q + (ns.getD k 0).toNat, ?_⟩
    show packAcc ws ns k + _ = _
    rw [hq, Nat.mul_add, ← Nat.mul_assoc, ← Nat.pow_add, show 64 - wsum ws (k + 1) + ws.getD k 0 = 64 - wsum ws k from by omega, Nat.mul_comm (2 ^ (64 - wsum ws (k + 1)))  (ns.getD k 0).toNat]
theorem packAcc_lt (ws : List Nat) (ns : List Int) (hw : ∀ k, k ≤ ws.length → wsum ws k ≤ 64) : ∀ k, k ≤ ws.length → allFit ws ns k → packAcc ws ns k + 2 ^ (64 - wsum ws k) ≤ 18446744073709551616
  | 0, _, _ => by show 0 + 2 ^ (64 - 0) ≤ _; decide
  | k + 1, h, hf => by
    have ih := packAcc_lt ws ns hw k (by omega) (fun j hj => hf j (by omega))
    have h1 := wsum_succ ws k (by omega)
    have h2 := hw (k + 1) h
    obtain ⟨f0, f1⟩ := hf k (by omega)
    have f2 : (ns.getD k 0).toNat + 1 ≤ 2 ^ ws.getD k 0 := by
      have : ((ns.getD k 0).toNat : Int) < ((2 ^ ws.getD k 0 : Nat) : Int) := by rw [Int.toNat_of_nonneg f0]; simpa using f1
      omega
    have f3 : ((ns.getD k 0).toNat + 1) * 2 ^ (64 - wsum ws (k + 1)) ≤ 2 ^ ws.getD k 0 * 2 ^ (64 - wsum ws (k + 1)) := Nat.mul_le_mul_right _ f2
    rw [← Nat.pow_add, show ws.getD k 0 + (64 - wsum ws (k + 1)) = 64 - wsum ws k from by omega, Nat.add_mul, Nat.one_mul] at f3
    show packAcc ws ns k + _ + _ ≤ _
    omega
/-- One round: a number is laid below those that lie already. -/
theorem pack_or (ws : List Nat) (ns : List Int) (hw : ∀ k, k ≤ ws.length → wsum ws k ≤ 64) (k : Nat) (h : k < ws.length) (hf : allFit ws ns (k + 1)) :
    bits BinOp.or IntKind.u64 (packAcc ws ns k : Nat) (((ns.getD k 0).toNat * 2 ^ (64 - wsum ws (k + 1)) : Nat) : Int) = (packAcc ws ns (k + 1) : Nat) := by
  have h1 := packAcc_lt ws ns hw (k + 1) h hf
  have h0 := packAcc_lt ws ns hw k (by omega) (fun j hj => hf j (by omega))
  have h2 : packAcc ws ns (k + 1) = packAcc ws ns k + (ns.getD k 0).toNat * 2 ^ (64 - wsum ws (k + 1)) := rfl
  have h3 := Nat.two_pow_pos (64 - wsum ws (k + 1))
  have h4 := Nat.two_pow_pos (64 - wsum ws k)
  rw [u64_or_nat _ _ (by omega) (by omega), h2]
  obtain ⟨q, hq⟩ := packAcc_dvd ws ns hw k (by omega)
  have h5 := wsum_succ ws k h
  have h6 := hw (k + 1) h
  obtain ⟨f0, f1⟩ := hf k (by omega)
  have f2 : (ns.getD k 0).toNat < 2 ^ ws.getD k 0 := by
    have : ((ns.getD k 0).toNat : Int) < ((2 ^ ws.getD k 0 : Nat) : Int) := by rw [Int.toNat_of_nonneg f0]; simpa using f1
    omega
  have f3 : (ns.getD k 0).toNat * 2 ^ (64 - wsum ws (k + 1)) < 2 ^ (64 - wsum ws k) := by
    have := Nat.mul_lt_mul_of_pos_right f2 h3
    rwa [← Nat.pow_add, show ws.getD k 0 + (64 - wsum ws (k + 1)) = 64 - wsum ws k from by omega] at this
  rw [hq, Nat.two_pow_add_eq_or_of_lt f3]

theorem packed_lt (ws : List Nat) (ns : List Int) (hw : ∀ k, k ≤ ws.length → wsum ws k ≤ 64) (hl : ws.length = ns.length) : (packed ws ns).1 < 18446744073709551616 := by
  unfold packed
  split
  · rename_i h
    rw [List.all_eq_true] at h
    have := packAcc_lt ws ns hw ws.length (Nat.le_refl _) (fun j hj => by
      have := h j (List.mem_range.2 hj)
      unfold fits at this
      simpa using this)
    have := Nat.two_pow_pos (64 - wsum ws ws.length)
    show packAcc ws ns ws.length < _
    omega
  · show 0 < _; decide

theorem andNot_mask_fit (n : Int) (w : Nat) (hw : 1 ≤ w) (hw2 : w ≤ 62) (h0 : 0 ≤ n) (h1 : n < 9223372036854775808) :
    (bits BinOp.andNot IntKind.u64 n (2 ^ w - 1) = 0) ↔ n < 2 ^ w := by
  obtain ⟨m, rfl⟩ := Int.eq_ofNat_of_zero_le h0
  have hp := pow_le62 hw2
  rw [two_pow_cast, u64_andNot_nat _ _ (by omega) (by omega)]
  have e : 18446744073709551615 - (2 ^ w - 1) = 2 ^ 64 - (2 ^ w - 1 + 1) := by omega
  have hX : 18446744073709551615 - (2 ^ w - 1) = (2 ^ (64 - w) - 1) <<< w := by
    rw [Nat.shiftLeft_eq, Nat.sub_mul, ← Nat.pow_add, show 64 - w + w = 64 from by omega, Nat.one_mul]
    have := Nat.two_pow_pos w
    have e64 : 2 ^ 64 = 18446744073709551616 := rfl
    rw [e64]
    omega
  have hm : m >>> w < 2 ^ (64 - w) := by
    rw [Nat.shiftRight_eq_div_pow, Nat.div_lt_iff_lt_mul (Nat.two_pow_pos w), ← Nat.pow_add, show 64 - w + w = 64 from by omega]
    omega
  have hs : m &&& (2 ^ (64 - w) - 1) <<< w = (m >>> w &&& (2 ^ (64 - w) - 1)) <<< w := by
    apply Nat.eq_of_testBit_eq
    intro i
    simp only [Nat.testBit_and, Nat.testBit_shiftLeft, Nat.testBit_shiftRight]
    by_cases hi : w ≤ i
    · simp [hi, show w + (i - w) = i from by omega]
    · simp [hi]
  have key : m &&& (18446744073709551615 - (2 ^ w - 1)) = m - m % 2 ^ w := by
    rw [hX, hs, Nat.and_two_pow_sub_one_eq_mod, Nat.mod_eq_of_lt hm, Nat.shiftLeft_eq, Nat.shiftRight_eq_div_pow]
    have := Nat.div_add_mod m (2 ^ w)
    rw [Nat.mul_comm] at this
    omega
  rw [key]
  have := Nat.mod_lt m (Nat.two_pow_pos w)
  have := Nat.mod_le m (2 ^ w)
  have c : ((2 : Int) ^ w) = ((2 ^ w : Nat) : Int) := by simp
  rw [c]
  constructor
  · intro h
    have : m = m % 2 ^ w := by omega
    omega
  · intro h
    have h' : m < 2 ^ w := by omega
    rw [Nat.mod_eq_of_lt h']; simp

set_option maxHeartbeats 2000000 in
theorem pack_any (ws : List Nat) (ns : List Int) (b c capb capc : Nat) (w : World) (hl : ws.length = ns.length) (h4 : ws.length ≤ 4) (h1 : ∀ j, j < ws.length → 1 ≤ ws.getD j 0 ∧ ws.getD j 0 ≤ 62)
    (hw : ∀ k, k ≤ ws.length → wsum ws k ≤ 64) (h64 : ∀ j, j < ns.length → ns.getD j 0 < 9223372036854775808)
    (hb : ∀ j, j < ws.length → w.cell? ⟨b, j, none⟩ = some (.int .i64 (ws.getD j 0 : Nat)))
    (hc : ∀ j, j < ws.length → w.cell? ⟨c, j, none⟩ = some (.int .i64 (ns.getD j 0))) :
    Calls Tryz.prog 194 #[.slice (some ⟨b, 0, none⟩) ws.length capb, .slice (some ⟨c, 0, none⟩) ws.length capc] w fun e w' =>
      e = .returned (.tuple #[.int .u64 (packed ws ns).1, .int .i64 (packed ws ns).2]) ∧ w' = w := by
  have hall : ∀ k, k ≤ ws.length → allFit ws ns k → k = ws.length → packed ws ns = (packAcc ws ns ws.length, 0) := by
    intro k _ hf hk
    unfold packed
    rw [if_pos]
    rw [List.all_eq_true]
    intro j hj
    have := hf j (by rw [hk]; exact List.mem_range.1 hj)
    unfold fits; simpa using this
  have hno : ∀ k, k < ws.length → ¬ (0 ≤ ns.getD k 0 ∧ ns.getD k 0 < 2 ^ ws.getD k 0) → packed ws ns = (0, 2) := by
    intro k hk hn
    unfold packed
    rw [if_neg]
    rw [List.all_eq_true]
    intro h
    have := h k (List.mem_range.2 hk)
    unfold fits at this
    exact hn (by simpa using this)
  have HALL := Go.Lib.hid hall
  have HNO := Go.Lib.hid hno
  have HB := Go.Lib.hid hb
  have HC := Go.Lib.hid hc
  have HW := Go.Lib.hid hw
  have H1 := Go.Lib.hid h1
  have H64 := Go.Lib.hid h64
  have HL := Go.Lib.hid hl
  have HP : Hid (∀ k, k < ws.length → allFit ws ns (k + 1) → bits BinOp.or IntKind.u64 (packAcc ws ns k : Nat) (((ns.getD k 0).toNat * 2 ^ (64 - wsum ws (k + 1)) : Nat) : Int) = (packAcc ws ns (k + 1) : Nat)) := fun k hk hf => pack_or ws ns hw k hk hf
  clear hall hno hb hc hw h1 h64 hl
  generalize hgl : ws.length = l at *
  have HGL := Go.Lib.hid hgl
  clear hgl
  go_enter Tryz.func194, Tryz.ntmps194
  go_wp2
  go_loop [6, 7, 12] (fun u s i => ∃ k : Nat, k ≤ l ∧ i = .int .i64 k ∧ s = .int .i64 (64 - wsum ws k : Nat) ∧ u = .int .u64 (packAcc ws ns k : Nat) ∧ allFit ws ns k) (fun _ _ i => l - (intOf i).toNat)
  case atStart => exact ⟨0, Nat.zero_le _, rfl, rfl, rfl, fun j hj => absurd hj (by omega)⟩
  case round =>
    obtain ⟨k, hk, rfl, rfl, rfl, hfit⟩ := hrel
    have HF := Go.Lib.hid hfit
    clear hfit
    by_cases hlt : k < l
    · have e1 := HB.out k hlt
      have e2 := HC.out k hlt
      obtain ⟨b1, b2⟩ := H1.out k hlt
      have b3 := H64.out k (by rw [← HL.out]; exact hlt)
      generalize hn : ns.getD k 0 = n at e2 b3
      generalize hm : ws.getD k 0 = m at e1 b1 b2
      have HN := Go.Lib.hid hn
      have HM := Go.Lib.hid hm
      clear hn hm
      have hmask := mask_any m
      have HMK := Go.Lib.hid hmask
      clear hmask
      by_cases h0 : n < 0
      · go_wp2
        go_ret2
        exact ⟨by rw [HNO.out k hlt (by rw [HN.out]; omega)]; rfl, rfl⟩
      · have hsh := HW.out (k + 1) (by omega)
        have hsu := wsum_succ ws k (by rw [HGL.out]; exact hlt)
        rw [HM.out] at hsu
        have HSU := Go.Lib.hid hsu
        have hs2 : m ≤ 64 - wsum ws k := by omega
        clear hsu
        by_cases h1 : n < 2 ^ m
        · have hA : (bits BinOp.andNot IntKind.u64 n (2 ^ m - 1) != 0) = false := by
            rw [(andNot_mask_fit n m b1 b2 (by omega) b3).2 h1]; rfl
          go_wp2_with (go_at_call 219; refine (HMK.out _ b1 (by omega)).mono ?_; rintro e w' ⟨rfl, rfl⟩)
          have hfit' : allFit ws ns (k + 1) := by
            intro j hj
            by_cases e : j = k
            · subst e; rw [HN.out, HM.out]; exact ⟨by omega, h1⟩
            · exact HF.out j (by omega)
          have hor := HP.out k hlt hfit'
          have hlast := packAcc_lt ws ns (by rw [HGL.out]; exact HW.out) (k + 1) (by rw [HGL.out]; exact hlt) hfit'
          have hsu := HSU.out
          have hacc : packAcc ws ns (k + 1) = packAcc ws ns k + (ns.getD k 0).toNat * 2 ^ (64 - wsum ws (k + 1)) := rfl
          rw [HN.out, hsu, show 64 - (wsum ws k + m) = 64 - wsum ws k - m from by omega] at hor hacc
          refine ⟨⟨k + 1, by omega, by go_num, ?_, ?_, hfit'⟩, by simp [intOf]; omega⟩
          · rw [hsu]; congr 1; omega
          · rw [← hor]
            have hnn : ((n.toNat : Nat) : Int) = n := Int.toNat_of_nonneg (by omega)
            have e1 : n * 2 ^ (64 - wsum ws k - m) = ((n.toNat * 2 ^ (64 - wsum ws k - m) : Nat) : Int) := by rw [Int.natCast_mul, hnn]; simp
            rw [e1]
            have hp := Nat.two_pow_pos (64 - wsum ws (k + 1))
            rw [IntKind.wrap_u64, Int.emod_eq_of_lt (by omega) (by omega)]
        · have hA : (bits BinOp.andNot IntKind.u64 n (2 ^ m - 1) != 0) = true := by
            rw [bne_iff_ne]; intro h; exact h1 ((andNot_mask_fit n m b1 b2 (by omega) b3).1 h)
          have HH1 := Go.Lib.hid h1
          clear h1
          go_wp2_with (go_at_call 219; refine (HMK.out _ b1 (by omega)).mono ?_; rintro e w' ⟨rfl, rfl⟩)
          go_ret2
          exact ⟨by rw [HNO.out k hlt (by rw [HN.out, HM.out]; have := HH1.out; omega)]; rfl, rfl⟩
    · go_wp2
      go_ret2
      have hkl : k = l := by omega
      subst hkl
      rw [HALL.out k (Nat.le_refl _) HF.out rfl]
      exact ⟨rfl, rfl⟩
end Go.Proofs.YtgemjjpmoejgdaaGreat
/- Words: a state, a home, a key, a head, a connection as a word. -/
namespace Go.Proofs.YtgemjjpmoejgdaaGreat
open Go.RowKit
set_option maxRecDepth 100000
set_option linter.unusedVariables false

set_option maxHeartbeats 1000000 in
theorem word_Key (gen version node : Int) (w : World) (h0 : gen < 9223372036854775808) (h1 : version < 9223372036854775808) (h2 : node < 9223372036854775808) :
    Calls Tryz.prog 108 #[.agg #[.int .i64 gen, .int .i64 version, .int .i64 node]] w fun e w' => e = .returned (.tuple #[.int .u64 (packed [32, 16, 16] [gen, version, node]).1, .int .i64 (packed [32, 16, 16] [gen, version, node]).2]) ∧ Below w.heap.size w w' := by
  go_enter Tryz.func108, Tryz.ntmps108
  go_wp2_with fail
  refine (pack_any [32, 16, 16] [gen, version, node] _ _ _ _ _ rfl (by decide) (by decide) (by decide) (by intro j hj; match j, hj with | 0, _ => exact h0 | 1, _ => exact h1 | 2, _ => exact h2) (by intro j hj; match j, hj with | 0, _ => go_simp | 1, _ => go_simp | 2, _ => go_simp) (by intro j hj; match j, hj with | 0, _ => go_simp | 1, _ => go_simp | 2, _ => go_simp)).mono ?_
  rintro e w' ⟨rfl, rfl⟩
  go_wp2
  go_ret2
  refine ⟨rfl, ?_⟩
  exact (((Below.refl _ _).alloc (Nat.le_refl _) _).alloc (by simp) _).alloc (by simp; omega) _

set_option maxHeartbeats 1000000 in
theorem word_State (gen time status : Int) (w : World) (h0 : gen < 9223372036854775808) (h1 : time < 9223372036854775808) (h2 : status < 9223372036854775808) :
    Calls Tryz.prog 165 #[.agg #[.int .i64 gen, .int .i64 time, .int .i64 status]] w fun e w' => e = .returned (.tuple #[.int .u64 (packed [32, 30, 2] [gen, time, status]).1, .int .i64 (packed [32, 30, 2] [gen, time, status]).2]) ∧ Below w.heap.size w w' := by
  go_enter Tryz.func165, Tryz.ntmps165
  go_wp2_with fail
  refine (pack_any [32, 30, 2] [gen, time, status] _ _ _ _ _ rfl (by decide) (by decide) (by decide) (by intro j hj; match j, hj with | 0, _ => exact h0 | 1, _ => exact h1 | 2, _ => exact h2) (by intro j hj; match j, hj with | 0, _ => go_simp | 1, _ => go_simp | 2, _ => go_simp) (by intro j hj; match j, hj with | 0, _ => go_simp | 1, _ => go_simp | 2, _ => go_simp)).mono ?_
  rintro e w' ⟨rfl, rfl⟩
  go_wp2
  go_ret2
  refine ⟨rfl, ?_⟩
  exact (((Below.refl _ _).alloc (Nat.le_refl _) _).alloc (by simp) _).alloc (by simp; omega) _

end Go.Proofs.YtgemjjpmoejgdaaGreat
/- Code in memory, and the step layer. -/
namespace Go.Proofs.YtgemjjpmoejgdaaGreat
open Go.RowKit
set_option maxRecDepth 100000
set_option linter.unusedVariables false

def EntersF (f : FuncId) : Prop := ∀ (args : Array Value) (w : World), (callFunc f args).run Tryz.prog w = .ok (.enter f args) w

section
variable {ρ : Type} (cf : Cf) (R : ρ → Arg → St → St × Option (K ρ)) (E : G) (t : Nat)

/-- Value v is code that does as κ says, for n steps at least. -/
def CodeSim : Nat → Lab → World → Value → Option (K ρ) → Prop
  | 0, _, _, _, _ => True
  | _ + 1, _, _, v, none => v = .nilFunc
  | n + 1, L, w, v, some κ => ∃ f cap, v = .func (.func f) #[] cap ∧ EntersF f ∧
      ∀ L' w' S, Ext t L w L' w' → Good E L' S w' → Bd (step cf R κ S).1 →
        Calls Tryz.prog f cap w' fun e w'' => ∃ v' L'', e = .returned v' ∧ Did t L' w' L'' w'' ∧ Good E L'' (step cf R κ S).1 w'' ∧ CodeSim n L'' w'' v' (step cf R κ S).2

/-- What a call leaves that does as a pure function says, and hands back code. -/
def Post (n : Nat) (L : Lab) (w : World) (r : St × Option (K ρ)) (e : Ending) (w' : World) : Prop :=
  ∃ v L', e = .returned v ∧ Did t L w L' w' ∧ Good E L' r.1 w' ∧ CodeSim cf R E t n L' w' v r.2

/-- Value v is a continuation that does as c says. -/
def ConSim (sh : Arg → Prop) (n : Nat) (L : Lab) (w : World) (v : Value) (c : C ρ) : Prop :=
  ∃ f cap, v = .func (.func f) #[] cap ∧ EntersF f ∧
    ∀ a L' w' S, sh a → Ext t L w L' w' → Good E L' S w' → Bd (app cf R c a S).1 →
      Calls Tryz.prog f (a.vals ++ cap) w' (Post cf R E t n L' w' (app cf R c a S))

theorem CodeSim.ext {n : Nat} {L L' : Lab} {w w' : World} {v : Value} {k : Option (K ρ)} (h : CodeSim cf R E t n L w v k) (hx : Ext t L w L' w') : CodeSim cf R E t n L' w' v k := by
  cases n with
  | zero => trivial
  | succ n => cases k with
    | none => exact h
    | some κ =>
      obtain ⟨f, cap, h1, h2, h3⟩ := h
      exact ⟨f, cap, h1, h2, fun L2 w2 S hx2 hg hb => h3 L2 w2 S (hx.trans hx2) hg hb⟩

theorem CodeSim.down {n : Nat} : ∀ {L : Lab} {w : World} {v : Value} {k : Option (K ρ)}, CodeSim cf R E t (n + 1) L w v k → CodeSim cf R E t n L w v k := by
  induction n with
  | zero => intros; trivial
  | succ n ih =>
    intro L w v k h
    cases k with
    | none => exact h
    | some κ =>
      obtain ⟨f, cap, h1, h2, h3⟩ := h
      exact ⟨f, cap, h1, h2, fun L2 w2 S hx2 hg hb => (h3 L2 w2 S hx2 hg hb).mono fun e w3 ⟨v', L3, q1, q2, q3, q4⟩ => ⟨v', L3, q1, q2, q3, ih q4⟩⟩

theorem Post.down {n : Nat} {L : Lab} {w w' : World} {r : St × Option (K ρ)} {e : Ending} (h : Post cf R E t (n + 1) L w r e w') : Post cf R E t n L w r e w' := by
  obtain ⟨v, L', h1, h2, h3, h4⟩ := h
  exact ⟨v, L', h1, h2, h3, CodeSim.down cf R E t h4⟩
theorem ConSim.ext {sh : Arg → Prop} {n : Nat} {L L' : Lab} {w w' : World} {v : Value} {c : C ρ} (h : ConSim cf R E t sh n L w v c) (hx : Ext t L w L' w') : ConSim cf R E t sh n L' w' v c := by
  obtain ⟨f, cap, h1, h2, h3⟩ := h
  exact ⟨f, cap, h1, h2, fun a L2 w2 S hs hx2 hg hb => h3 a L2 w2 S hs (hx.trans hx2) hg hb⟩
theorem ConSim.down {sh : Arg → Prop} {n : Nat} {L : Lab} {w : World} {v : Value} {c : C ρ} (h : ConSim cf R E t sh (n + 1) L w v c) : ConSim cf R E t sh n L w v c := by
  obtain ⟨f, cap, h1, h2, h3⟩ := h
  exact ⟨f, cap, h1, h2, fun a L2 w2 S hs hx2 hg hb => (h3 a L2 w2 S hs hx2 hg hb).mono fun e w3 hp => Post.down cf R E t hp⟩
theorem ConSim.sub {sh sh' : Arg → Prop} {n : Nat} {L : Lab} {w : World} {v : Value} {c : C ρ} (h : ConSim cf R E t sh n L w v c) (hs : ∀ a, sh' a → sh a) : ConSim cf R E t sh' n L w v c := by
  obtain ⟨f, cap, h1, h2, h3⟩ := h
  exact ⟨f, cap, h1, h2, fun a L2 w2 S hs2 hx2 hg hb => h3 a L2 w2 S (hs a hs2) hx2 hg hb⟩
/-- A step ahead of what a call leaves. -/
theorem Post.before {n : Nat} {L L1 : Lab} {w w1 w' : World} {r : St × Option (K ρ)} {e : Ending} (h : Post cf R E t n L1 w1 r e w') (hd : Did t L w L1 w1) : Post cf R E t n L w r e w' := by
  obtain ⟨v, L', h1, h2, h3, h4⟩ := h
  exact ⟨v, L', h1, hd.trans h2, h3, h4⟩
end

/-- The shapes of what is handed to a continuation. -/
def isU : Arg → Prop | .u => True | _ => False
def isW : Arg → Prop | .w x => x < 18446744073709551616 | _ => False
def isB : Arg → Prop | .b _ => True | _ => False
def isPop : Arg → Prop | .pop x _ => -1 ≤ x ∧ x ≤ 4294967294 | _ => False
theorem below_did {w w' : World} (h : Below w.heap.size w w') (t : Nat) (L : Lab) : Did t L w L w' := (Shr.of_below h L).did t
theorem below_ext {w w' : World} (h : Below w.heap.size w w') (t : Nat) (L : Lab) : Ext t L w L w' := (Shr.of_below h L).ext t
theorem St.get_lt {S : St} {i : Int} (h : ∀ j, S.m j < 18446744073709551616) : S.get i < 18446744073709551616 := by
  unfold St.get; split
  · exact h _
  · decide

section
variable {ρ : Type} {cf : Cf} {R : ρ → Arg → St → St × Option (K ρ)} {E : G} {t : Nat}

theorem Good.drew {L : Lab} {S : St} {w : World} (h : Good E L S w) : Good E L S w.drew := h.below ((Below.refl _ w).drew)
theorem below_drewN {w : World} (q : Nat) : Below w.heap.size w (w.drewN q) := ⟨rfl, rfl, rfl, Nat.le_refl _, fun _ _ => rfl⟩
theorem Qt.below {v : Value} {w : World} {e : Ending} {w' : World} (h : Qt v w e w') : e = .returned v ∧ Below w.heap.size w w' := by
  obtain ⟨h1, q, rfl⟩ := h; exact ⟨h1, below_drewN q⟩
theorem Good.drewN {L : Lab} {S : St} {w : World} (h : Good E L S w) (q : Nat) : Good E L S (w.drewN q) := h.below (below_drewN q)
set_option maxHeartbeats 1000000 in
theorem load1 {n : Nat} {i : Int} {vk : Value} {c : C ρ} {L : Lab} {w : World} {S : St} {b0 b1 b2 : Nat}
    (h0 : w.cell? ⟨b0, 0, none⟩ = some vk) (h1 : w.cell? ⟨b1, 0, none⟩ = some (.pointer (some ⟨E.a, 0, none⟩))) (h2 : w.cell? ⟨b2, 0, none⟩ = some (.int .i64 i))
    (hk : ConSim cf R E t isW n L w vk c) (hg : Good E L S w) (hbd : Bd (app cf R c (.w (S.get i)) (S.touch i)).1) (hbt : (S.touch i).cnt ≤ 4611686018427387904)
    (l0 : L b0 = 0) (l1 : L b1 = 0) (l2 : L b2 = 0) :
    Calls Tryz.prog 185 #[.pointer (some ⟨b0, 0, none⟩), .pointer (some ⟨b1, 0, none⟩), .pointer (some ⟨b2, 0, none⟩)] w
      (Post cf R E t n L w (app cf R c (.w (S.get i)) (S.touch i))) := by
  obtain ⟨f, cap, rfl, hf, hk⟩ := hk
  have HK := Go.Lib.hid hk
  clear hk
  have hf' : ∀ (args : Array Value) (w : World), (callFunc f args).run Tryz.prog w = .ok (.enter f args) w := hf
  have hgd := hg.drew
  go_enter Tryz.func185, Tryz.ntmps185
  go_wp2_with fail
  go_region_held3 (fun w' => w'.cell? ⟨b0, 0, none⟩ = some (.func (.func f) #[] cap) ∧ w'.cell? ⟨b1, 0, none⟩ = some (.pointer (some ⟨E.a, 0, none⟩)) ∧ w'.cell? ⟨b2, 0, none⟩ = some (.int .i64 i))
    (first | exact ⟨h0, h1, h2⟩ | exact ⟨hs1.cell h0 (.inl l0), hs1.cell h1 (.inl l1), hs1.cell h2 (.inl l2)⟩ | exact ⟨hd2.cell0 (hs1.cell h0 (.inl l0)) l0, hd2.cell0 (hs1.cell h1 (.inl l1)) l1, hd2.cell0 (hs1.cell h2 (.inl l2)) l2⟩)
    (first
    | (go_at_call 136; refine (arena_load hgd i hbt).mono ?_; rintro e w1 ⟨rfl, hg1, hs1⟩)
    | (go_at_fn f; refine (HK.out (.w (S.get i)) _ _ _ (St.get_lt hg.ar.m64) ((below_ext ((Below.refl _ w).drew) t L).trans (hs1.ext t)) hg1 hbd).mono ?_; rintro e w2 ⟨v2, L2, rfl, hd2, hg2, hc2⟩))
  go_wp2
  go_ret
  exact ⟨v2, L2, rfl, (((below_did ((Below.refl _ w).drew) t L).trans (hs1.did t))).trans hd2, hg2, hc2⟩

theorem enters_load1 : EntersF 185 := enters_of Tryz.func185 (by kernel_rfl) rfl

set_option maxHeartbeats 1000000 in
theorem load_any (hR : RMono R) {n : Nat} {i : Int} {vk : Value} {c : C ρ} {L : Lab} {w : World} {S : St}
    (hg : Good E L S w) (hk : ConSim cf R E t isW n L w vk c) :
    Calls Tryz.prog 91 #[.pointer (some ⟨E.a, 0, none⟩), .int .i64 i, vk] w (Post cf R E t (n + 1) L w (S, some (.load i c))) := by
  obtain ⟨f, cap, rfl, hfe, hk⟩ := hk
  have HK := Go.Lib.hid hk
  have HF := Go.Lib.hid hfe
  clear hk hfe
  go_enter Tryz.func91, Tryz.ntmps91
  go_wp2
  go_ret
  have hb : Below w.heap.size w (((w.alloc (.cells #[.pointer (some ⟨E.a, 0, none⟩)] 57)).alloc (.cells #[.int .i64 i] 3)).alloc (.cells #[.func (.func f) #[] cap] 150)) :=
    ((((Below.refl _ _).alloc (Nat.le_refl _) _).alloc (by simp) _).alloc (by simp; omega) _)
  have z0 := hg.new w.heap.size (Nat.le_refl _)
  have z1 := hg.new (w.heap.size + 1) (by omega)
  have z2 := hg.new (w.heap.size + 1 + 1) (by omega)
  refine ⟨_, L, rfl, below_did hb t L, hg.below hb, 185, _, rfl, enters_load1, fun L' w' S' hx hg' hbd => ?_⟩
  have hbs : Bd (S'.touch i) := Bd.of_app hR hbd
  exact load1 (hx.cell0 (by go_simp) z2) (hx.cell0 (by go_simp) z0) (hx.cell0 (by go_simp) z1) ⟨f, cap, rfl, HF.out, fun a L2 w2 S2 q1 q2 => HK.out a L2 w2 S2 q1 (((below_ext hb t L).trans hx).trans q2)⟩ hg' hbd hbs.cnt
    ((hx.lab _ (by simp)).trans z2) ((hx.lab _ (by simp; omega)).trans z0) ((hx.lab _ (by simp)).trans z1)

theorem ConSim.unit {n : Nat} {L : Lab} {w : World} {f : FuncId} {cap : Array Value} {c : C ρ}
    (h : ∀ a L' w' S, isU a → Ext t L w L' w' → Good E L' S w' → Bd (app cf R c a S).1 → Calls Tryz.prog f (a.vals ++ cap) w' (Post cf R E t n L' w' (app cf R c a S))) :
    ∀ L' w' S, Ext t L w L' w' → Good E L' S w' → Bd (app cf R c .u S).1 → Calls Tryz.prog f cap w' (Post cf R E t n L' w' (app cf R c .u S)) := fun L' w' S a b d => by
  have h := h .u L' w' S trivial a b d
  rwa [show (Arg.u.vals ++ cap) = cap from Array.empty_append] at h

set_option maxHeartbeats 1000000 in
theorem store1 {n : Nat} {i : Int} {v : Nat} {vk : Value} {c : C ρ} {L : Lab} {w : World} {S : St} {b0 b1 b2 b3 : Nat} (hv : v < 18446744073709551616)
    (h0 : w.cell? ⟨b0, 0, none⟩ = some (.pointer (some ⟨E.a, 0, none⟩))) (h1 : w.cell? ⟨b1, 0, none⟩ = some (.int .i64 i)) (h2 : w.cell? ⟨b2, 0, none⟩ = some (.int .u64 v)) (h3 : w.cell? ⟨b3, 0, none⟩ = some vk)
    (hk : ConSim cf R E t isU n L w vk c) (hg : Good E L S w) (hbd : Bd (app cf R c .u (S.put i v)).1) (hbt : (S.put i v).cnt ≤ 4611686018427387904)
    (l3 : L b3 = 0) :
    Calls Tryz.prog 196 #[.pointer (some ⟨b0, 0, none⟩), .pointer (some ⟨b1, 0, none⟩), .pointer (some ⟨b2, 0, none⟩), .pointer (some ⟨b3, 0, none⟩)] w
      (Post cf R E t n L w (app cf R c .u (S.put i v))) := by
  obtain ⟨f, cap, rfl, hf, hk⟩ := hk
  have hku := ConSim.unit hk
  have HK := Go.Lib.hid hku
  clear hk hku
  have hf' : ∀ (args : Array Value) (w : World), (callFunc f args).run Tryz.prog w = .ok (.enter f args) w := hf
  go_enter Tryz.func196, Tryz.ntmps196
  go_wp2_with fail
  refine (arena_store hg i v hv hbt).mono ?_
  rintro e w1 ⟨rfl, hg1, hs1⟩
  have g3 := hs1.cell (a := ⟨b3, 0, none⟩) h3 (.inl l3)
  go_wp2_with (go_at_fn f; refine (HK.out _ _ _ (hs1.ext t) hg1 hbd).mono ?_; rintro e w2 ⟨v2, L2, rfl, hd2, hg2, hc2⟩)
  go_ret
  exact ⟨v2, L2, rfl, (hs1.did t).trans hd2, hg2, hc2⟩

theorem enters_store1 : EntersF 196 := enters_of Tryz.func196 (by kernel_rfl) rfl

set_option maxHeartbeats 1000000 in
theorem store_any (hR : RMono R) {n : Nat} {i : Int} {v : Nat} {vk : Value} {c : C ρ} {L : Lab} {w : World} {S : St} (hv : v < 18446744073709551616)
    (hg : Good E L S w) (hk : ConSim cf R E t isU n L w vk c) :
    Calls Tryz.prog 110 #[.pointer (some ⟨E.a, 0, none⟩), .int .i64 i, .int .u64 v, vk] w (Post cf R E t (n + 1) L w (S, some (.store i v c))) := by
  obtain ⟨f, cap, rfl, hfe, hk⟩ := hk
  have HK := Go.Lib.hid hk
  have HF := Go.Lib.hid hfe
  clear hk hfe
  go_enter Tryz.func110, Tryz.ntmps110
  go_wp2
  go_ret
  have hb : Below w.heap.size w ((((w.alloc (.cells #[.pointer (some ⟨E.a, 0, none⟩)] 57)).alloc (.cells #[.int .i64 i] 3)).alloc (.cells #[.int .u64 v] 92)).alloc (.cells #[.func (.func f) #[] cap] 43)) :=
    (((((Below.refl _ _).alloc (Nat.le_refl _) _).alloc (by simp) _).alloc (by simp; omega) _).alloc (by simp; omega) _)
  have z0 := hg.new w.heap.size (Nat.le_refl _)
  have z1 := hg.new (w.heap.size + 1) (by omega)
  have z2 := hg.new (w.heap.size + 1 + 1) (by omega)
  have z3 := hg.new (w.heap.size + 1 + 1 + 1) (by omega)
  refine ⟨_, L, rfl, below_did hb t L, hg.below hb, 196, _, rfl, enters_store1, fun L' w' S' hx hg' hbd => ?_⟩
  have hbs : Bd (S'.put i v) := Bd.of_app hR hbd
  exact store1 hv (hx.cell0 (by go_simp) z0) (hx.cell0 (by go_simp) z1) (hx.cell0 (by go_simp) z2) (hx.cell0 (by go_simp) z3) ⟨f, cap, rfl, HF.out, fun a L2 w2 S2 q1 q2 => HK.out a L2 w2 S2 q1 (((below_ext hb t L).trans hx).trans q2)⟩ hg' hbd hbs.cnt
    ((hx.lab _ (by simp)).trans z3)
end
end Go.Proofs.YtgemjjpmoejgdaaGreat
/- Tasks: code that is done step by step. -/
namespace Go.Proofs.YtgemjjpmoejgdaaGreat
open Go.RowKit
set_option maxRecDepth 100000
set_option linter.unusedVariables false

/-- Nothing was turned but blocks whose label meets P. -/
structure DidP (P : Nat → Prop) (L : Lab) (w : World) (L' : Lab) (w' : World) : Prop where
  os : w'.os = w.os
  tape : w'.tape = w.tape
  output : w'.output = w.output
  size : w.heap.size ≤ w'.heap.size
  block : ∀ b, b < w.heap.size → ¬ P (L b) → w'.heap[b]? = w.heap[b]?
  lab : ∀ b, b < w.heap.size → L' b = L b
theorem DidP.refl (P : Nat → Prop) (L : Lab) (w : World) : DidP P L w L w := ⟨rfl, rfl, rfl, Nat.le_refl _, fun _ _ _ => rfl, fun _ _ => rfl⟩
theorem DidP.trans {P : Nat → Prop} {L L1 L2 : Lab} {w w1 w2 : World} (h : DidP P L w L1 w1) (k : DidP P L1 w1 L2 w2) : DidP P L w L2 w2 :=
  ⟨k.os.trans h.os, k.tape.trans h.tape, k.output.trans h.output, Nat.le_trans h.size k.size,
    fun b hb hl => (k.block b (Nat.lt_of_lt_of_le hb h.size) (by rw [h.lab b hb]; exact hl)).trans (h.block b hb hl),
    fun b hb => (k.lab b (Nat.lt_of_lt_of_le hb h.size)).trans (h.lab b hb)⟩
theorem DidP.mono {P Q : Nat → Prop} {L L1 : Lab} {w w1 : World} (h : DidP P L w L1 w1) (hq : ∀ l, P l → Q l) : DidP Q L w L1 w1 :=
  ⟨h.os, h.tape, h.output, h.size, fun b hb hl => h.block b hb (fun hp => hl (hq _ hp)), h.lab⟩
theorem DidP.of_below {w w' : World} (h : Below w.heap.size w w') (P : Nat → Prop) (L : Lab) : DidP P L w L w' :=
  ⟨h.os, h.tape, h.output, h.size, fun b hb _ => h.block b hb, fun _ _ => rfl⟩
theorem DidP.set {P : Nat → Prop} {L : Lab} {w : World} {a : Addr} (v : Value) (h : P (L a.block)) : DidP P L w L (w.setCell a v) :=
  ⟨rfl, rfl, rfl, by simp [World.setCell], fun b hb hl => Below.heap_setCell _ _ _ _ (by intro e; subst e; exact hl h), fun _ _ => rfl⟩
theorem DidP.cell {P : Nat → Prop} {L L' : Lab} {w w' : World} (h : DidP P L w L' w') {a : Addr} {v : Value} (hc : w.cell? a = some v) (hl : ¬ P (L a.block)) : w'.cell? a = some v :=
  (World.cell?_of_block (h.block a.block (cell_lt hc) hl)).trans hc
theorem DidP.frozen {P : Nat → Prop} {L L' : Lab} {w w' : World} (h : DidP P L w L' w') {a : Addr} {v : Value} (hc : w.cell? a = some v) (hl : ¬ P (L a.block)) : w'.frozen? a = w.frozen? a :=
  World.frozen?_of_block (h.block a.block (cell_lt hc) hl)
/-- What a step of task t may turn: what all share, the task's own, the task's record. -/
def TP (t : Nat) (l : Nat) : Prop := (1 ≤ l ∧ l < 8) ∨ l = 8 + t ∨ l = 5000 + t
theorem Did.toP {t : Nat} {L L' : Lab} {w w' : World} (h : Did t L w L' w') : DidP (TP t) L w L' w' :=
  ⟨h.os, h.tape, h.output, h.size, fun b hb hl => h.block b hb (by unfold TP at hl; omega), h.lab⟩
theorem DidP.ext {t u : Nat} {L L' : Lab} {w w' : World} (h : DidP (TP t) L w L' w') (hne : u ≠ t) (hu : u < 4000) (ht : t < 4000) : Ext u L w L' w' :=
  ⟨h.os, h.tape, h.output, h.size, fun b hb hl => h.block b hb (by unfold TP; omega), h.lab⟩

structure TaskAt (w : World) (L : Lab) (t tb : Nat) (v : Value) (s : Nat) : Prop where
  c0 : w.cell? ⟨tb, 0, none⟩ = some v
  c1 : w.cell? ⟨tb, 1, none⟩ = some (.int .i64 s)
  f0 : w.frozen? ⟨tb, 0, none⟩ = false
  f1 : w.frozen? ⟨tb, 1, none⟩ = false
  lb : L tb = 5000 + t

set_option maxHeartbeats 400000 in
theorem ended_no (tb : Nat) (f : FuncId) (cap : Array Value) (w : World) (h : w.cell? ⟨tb, 0, none⟩ = some (.func (.func f) #[] cap)) :
    Calls Tryz.prog 94 #[.pointer (some ⟨tb, 0, none⟩)] w fun e w' => e = .returned (.bool false) ∧ w' = w := by
  have hrun : Sem.run Tryz.prog (binOp BinOp.eql 44 (Value.func (Fn.func f) #[] cap) Value.nilFunc) w = .ok (.bool false) w := by kernel_rfl
  go_enter Tryz.func94, Tryz.ntmps94
  go_wp2
  go_ret
  exact ⟨rfl, rfl⟩
set_option maxHeartbeats 400000 in
theorem ended_yes (tb : Nat) (w : World) (h : w.cell? ⟨tb, 0, none⟩ = some .nilFunc) :
    Calls Tryz.prog 94 #[.pointer (some ⟨tb, 0, none⟩)] w fun e w' => e = .returned (.bool true) ∧ w' = w := by
  have hrun : Sem.run Tryz.prog (binOp BinOp.eql 44 Value.nilFunc Value.nilFunc) w = .ok (.bool true) w := by kernel_rfl
  go_enter Tryz.func94, Tryz.ntmps94
  go_wp2
  go_ret
  exact ⟨rfl, rfl⟩

section
variable {ρ : Type} {cf : Cf} {R : ρ → Arg → St → St × Option (K ρ)} {E : G} {t : Nat}

theorem ended_any {n : Nat} {L : Lab} {w : World} {tb : Nat} {v : Value} {k : Option (K ρ)} (hc : w.cell? ⟨tb, 0, none⟩ = some v) (hk : CodeSim cf R E t (n + 1) L w v k) :
    Calls Tryz.prog 94 #[.pointer (some ⟨tb, 0, none⟩)] w fun e w' => e = .returned (.bool k.isNone) ∧ w' = w := by
  cases k with
  | none => exact ended_yes tb w (by rw [hc]; exact congrArg some hk)
  | some κ =>
    obtain ⟨f, cap, rfl, _⟩ := hk
    exact ended_no tb f cap w hc

theorem Good.set_far {L : Lab} {S : St} {w : World} (h : Good E L S w) {a : Addr} (v : Value) (ha : 8 ≤ L a.block) : Good E L S (w.setCell a v) := by
  have hb : ∀ b, L b < 8 → (w.setCell a v).heap[b]? = w.heap[b]? := fun b hl => Below.heap_setCell _ _ _ _ (by intro e; subst e; omega)
  have cc : ∀ b o, L b < 8 → (w.setCell a v).cell? ⟨b, o, none⟩ = w.cell? ⟨b, o, none⟩ := fun b o hl => World.cell?_of_block (a := ⟨b, o, none⟩) (hb b hl)
  have lk := h.lk; have lp := h.lp; have la := h.la; have lc := h.lc
  refine ⟨h.ok, (cc _ _ (by omega)).trans h.k0, (cc _ _ (by omega)).trans h.k1, h.pl.mono (hb _ (by omega)), h.ar.below (hb _ (by omega)) (hb _ (by omega)), h.lg.below (hb _ (by omega)) (fun g hg _ => ⟨hb g (by omega), rfl⟩), ?_, lk, lp, la, lc, fun b hb' => h.new b (by simpa [World.setCell] using hb'), fun s hs => ⟨(h.sv s hs).1.set v (by omega) (by omega), (h.sv s hs).2⟩⟩
  intro b o u hu
  obtain ⟨r1, r2, r3⟩ := h.rg b o u hu
  exact ⟨(cc _ _ (by omega)).trans r1, by rw [World.frozen?_setCell]; exact r2, r3⟩
theorem Ext.set {L : Lab} {w : World} {a : Addr} (v : Value) (h0 : L a.block ≠ 0) (h1 : L a.block ≠ 8 + t) : Ext t L w L (w.setCell a v) :=
  ⟨rfl, rfl, rfl, by simp [World.setCell], fun b hb hl => Below.heap_setCell _ _ _ _ (by intro e; subst e; omega), fun _ _ => rfl⟩
theorem CodeSim.value {n : Nat} {L : Lab} {w : World} {v : Value} {k : Option (K ρ)} (h : CodeSim cf R E t (n + 1) L w v k) : v = .nilFunc ∨ ∃ f cap, v = .func (.func f) #[] cap := by
  cases k with
  | none => exact .inl h
  | some κ => obtain ⟨f, cap, h, _⟩ := h; exact .inr ⟨f, cap, h⟩

set_option maxHeartbeats 1000000 in
theorem task_step {n : Nat} {L : Lab} {w : World} {tb s : Nat} {v : Value} {κ : K ρ} {S : St} (hg : Good E L S w) (ht : TaskAt w L t tb v s) (hk : CodeSim cf R E t (n + 2) L w v (some κ))
    (hbd : Bd (step cf R κ S).1) (hs : s < 4611686018427387904) (htt : t < 4000) :
    Calls Tryz.prog 95 #[.pointer (some ⟨tb, 0, none⟩)] w fun e w' =>
      ∃ v' L', e = .returned (.bool (step cf R κ S).2.isNone) ∧ DidP (TP t) L w L' w' ∧ Good E L' (step cf R κ S).1 w' ∧ TaskAt w' L' t tb v' (s + 1) ∧ CodeSim cf R E t (n + 1) L' w' v' (step cf R κ S).2 := by
  obtain ⟨f, cap, rfl, hf, hk⟩ := hk
  obtain ⟨c0, c1, f0, f1, lb⟩ := ht
  have htb : ¬ TP t (L tb) → False := by unfold TP; omega
  have HK := Go.Lib.hid hk
  have hf' : ∀ (args : Array Value) (w : World), (callFunc f args).run Tryz.prog w = .ok (.enter f args) w := hf
  have hen := ended_no tb f cap w c0
  have HEN := Go.Lib.hid hen
  clear hk hen
  go_enter Tryz.func95, Tryz.ntmps95
  go_wp2_with fail
  refine HEN.out.mono ?_
  rintro e w1 ⟨rfl, rfl⟩
  go_wp2_with fail
  have hx1 : Ext t L w1 L (w1.setCell ⟨tb, 1, none⟩ (.int .i64 ((s : Int) + 1))) := Ext.set _ (by show L tb ≠ 0; omega) (by show L tb ≠ 8 + t; omega)
  refine (HK.out L _ S hx1 (hg.set_far _ (by show 8 ≤ L tb; omega)) hbd).mono ?_
  rintro e w2 ⟨v', L2, rfl, hd, hg2, hc2⟩
  have hlt : tb < w1.heap.size := cell_lt c0
  have hl2 : L2 tb = 5000 + t := (hd.lab tb (by simpa using hlt)).trans lb
  have hbl : w2.heap[tb]? = (w1.setCell ⟨tb, 1, none⟩ (.int .i64 ((s : Int) + 1))).heap[tb]? := hd.block tb (by simpa using hlt) (.inr ⟨by omega, by omega⟩)
  have g0 : w2.cell? ⟨tb, 0, none⟩ = some (.func (.func f) #[] cap) := by
    rw [World.cell?_of_block (a := ⟨tb, 0, none⟩) hbl, World.cell?_setCell_other _ _ _ _ (by simp)]; exact c0
  have g1 : w2.cell? ⟨tb, 1, none⟩ = some (.int .i64 ((s : Int) + 1)) := by
    rw [World.cell?_of_block (a := ⟨tb, 1, none⟩) hbl, World.cell?_setCell_same _ _ _ c1]
  have k0 : w2.frozen? ⟨tb, 0, none⟩ = false := by rw [World.frozen?_of_block (a := ⟨tb, 0, none⟩) hbl, World.frozen?_setCell]; exact f0
  have k1 : w2.frozen? ⟨tb, 1, none⟩ = false := by rw [World.frozen?_of_block (a := ⟨tb, 1, none⟩) hbl, World.frozen?_setCell]; exact f1
  have hd1 : DidP (TP t) L w1 L (w1.setCell ⟨tb, 1, none⟩ (.int .i64 ((s : Int) + 1))) := DidP.set _ (.inr (.inr lb))
  have hdd := Go.Lib.hid ((hd1.trans hd.toP).trans (DidP.set (a := ⟨tb, 0, none⟩) v' (.inr (.inr hl2))))
  have hgg := Go.Lib.hid (hg2.set_far (a := ⟨tb, 0, none⟩) v' (by show 8 ≤ L2 tb; omega))
  have hcc := Go.Lib.hid (CodeSim.ext cf R E t hc2 (Ext.set (a := ⟨tb, 0, none⟩) v' (by show L2 tb ≠ 0; omega) (by show L2 tb ≠ 8 + t; omega)))
  have htt := Go.Lib.hid (TaskAt.mk (w := w2.setCell ⟨tb, 0, none⟩ v') (L := L2) (t := t) (tb := tb) (v := v') (s := s + 1) (by rw [World.cell?_setCell_same _ _ _ g0]) (by rw [World.cell?_setCell_other _ _ _ _ (by simp)]; exact g1) (by rw [World.frozen?_setCell]; exact k0) (by rw [World.frozen?_setCell]; exact k1) hl2)
  have hen2 := Go.Lib.hid (ended_any htt.out.c0 hcc.out)
  have hval := CodeSim.value hc2
  clear hbl hl2 hd1 hx1 hbd hd hg2 hc2
  rcases hval with rfl | ⟨f2, cap2, rfl⟩
  · go_wp2_with (refine hen2.out.mono ?_; rintro e w3 ⟨rfl, rfl⟩)
    go_ret
    exact ⟨_, L2, rfl, hdd.out, hgg.out, htt.out, hcc.out⟩
  · go_wp2_with (refine hen2.out.mono ?_; rintro e w3 ⟨rfl, rfl⟩)
    go_ret
    exact ⟨_, L2, rfl, hdd.out, hgg.out, htt.out, hcc.out⟩
end
end Go.Proofs.YtgemjjpmoejgdaaGreat
/- A caller's own variables; what a cell holds behind a step. -/
namespace Go.Proofs.YtgemjjpmoejgdaaGreat
open Go.RowKit
set_option maxRecDepth 100000
set_option linter.unusedVariables false

/-- A caller's variable is turned. -/
def St.setR (S : St) (a : Nat × Nat) (v : Value) : St := { S with reg := S.reg.map fun p => if p.1 = a then (a, v) else p }
def St.knows (S : St) (a : Nat × Nat) : Prop := a ∈ S.reg.map Prod.fst
instance (S : St) (a : Nat × Nat) : Decidable (S.knows a) := by unfold St.knows; infer_instance
/-- New variables, that lie in one block. -/
def regsOf (b : Nat) (vs : List Value) : List ((Nat × Nat) × Value) := vs.zipIdx.map fun p => ((b, p.2), p.1)
def St.newR (S : St) (b : Nat) (vs : List Value) : St := { S with reg := regsOf b vs ++ S.reg }
/-- What a variable holds. -/
def St.reads (S : St) (a : Nat × Nat) (v : Value) : Prop := (a, v) ∈ S.reg
/-- A state that cannot be: a continuation whose variables there aren't comes to it. -/
def St.burst (S : St) : St := { S with cnt := S.cnt + 4611686018427387905 }
theorem St.burst_no {S : St} (h : Bd S.burst) : False := by
  have := h.cnt
  unfold St.burst at this
  dsimp only at this
  omega
theorem St.knows_setR {S : St} {b b' : Nat × Nat} {v : Value} : (S.setR b' v).knows b ↔ S.knows b := by
  unfold St.knows St.setR
  rw [List.map_map]
  have e : (Prod.fst ∘ fun p : (Nat × Nat) × Value => if p.1 = b' then (b', v) else p) = Prod.fst := by
    funext p
    show (if p.1 = b' then (b', v) else p).1 = p.1
    split
    · rename_i e; exact e.symm
    · rfl
  rw [e]

section
variable {E : G} {L : Lab} {S : St} {w : World}
theorem Good.knows (h : Good E L S w) {a : Nat × Nat} (hb : S.knows a) : (∃ u, w.cell? ⟨a.1, a.2, none⟩ = some u) ∧ w.frozen? ⟨a.1, a.2, none⟩ = false ∧ L a.1 = 5 := by
  obtain ⟨⟨⟨b', o⟩, u⟩, hm, rfl⟩ := List.mem_map.1 hb
  obtain ⟨r1, r2, r3⟩ := h.rg b' o u hm
  exact ⟨⟨u, r1⟩, r2, r3⟩
theorem Good.setR (h : Good E L S w) {b o : Nat} (hb : S.knows (b, o)) (v : Value) : Good E L (S.setR (b, o) v) (w.setCell ⟨b, o, none⟩ v) := by
  obtain ⟨⟨u0, hc⟩, hf, hl⟩ := h.knows hb
  dsimp only at hc hf hl
  have hbl : ∀ b', L b' ≠ 5 → (w.setCell ⟨b, o, none⟩ v).heap[b']? = w.heap[b']? := fun b' hl' => Below.heap_setCell _ _ _ _ (by intro e; have e : b' = b := e; subst e; exact hl' hl)
  have cc : ∀ b' o', L b' ≠ 5 → (w.setCell ⟨b, o, none⟩ v).cell? ⟨b', o', none⟩ = w.cell? ⟨b', o', none⟩ := fun b' o' hl' => World.cell?_of_block (a := ⟨b', o', none⟩) (hbl b' hl')
  have lk := h.lk; have lp := h.lp; have la := h.la; have lc := h.lc
  refine ⟨h.ok, (cc _ _ (by omega)).trans h.k0, (cc _ _ (by omega)).trans h.k1, h.pl.mono (hbl _ (by omega)), ?_, h.lg.below (hbl _ (by omega)) (fun g hg _ => ⟨hbl g (by omega), rfl⟩), ?_, lk, lp, la, lc, fun b hb' => h.new b (by simpa [World.setCell] using hb'), ?_⟩
  · have := h.ar.below (hbl E.a (by omega)) (hbl E.c (by omega))
    exact ⟨this.a0, this.a1, this.af, this.c0, this.cf, this.ne, this.n2, this.m64, this.cnt2⟩
  · intro b' o' u hu
    obtain ⟨⟨⟨b2, o2⟩, u2⟩, hm, he⟩ := List.mem_map.1 hu
    obtain ⟨r1, r2, r3⟩ := h.rg b2 o2 u2 hm
    dsimp only at he
    by_cases e : (b2, o2) = (b, o)
    · rw [if_pos e] at he
      obtain ⟨e1, rfl⟩ := Prod.mk.inj he
      obtain ⟨rfl, rfl⟩ := Prod.mk.inj e1
      exact ⟨World.cell?_setCell_same _ _ _ hc, by rw [World.frozen?_setCell]; exact hf, hl⟩
    · rw [if_neg e] at he
      obtain ⟨e1, rfl⟩ := Prod.mk.inj he
      obtain ⟨rfl, rfl⟩ := Prod.mk.inj e1
      refine ⟨?_, by rw [World.frozen?_setCell]; exact r2, r3⟩
      rw [World.cell?_setCell_other _ _ _ _ (by intro x; cases x; exact e rfl)]
      exact r1
  · intro s hs
    obtain ⟨hsl, hsk⟩ := h.sv s hs
    have hne : (s.b, s.o) ≠ (b, o) := fun e => hsk (by rw [e]; exact hb)
    refine ⟨⟨by rw [World.frozen?_setCell]; exact hsl.fz, hsl.lb, ?_⟩, fun q => hsk ((St.knows_setR (S := S) (b := (s.b, s.o)) (b' := (b, o)) (v := v)).1 q)⟩
    obtain ⟨v', h1, h2, h3⟩ := hsl.ex
    refine ⟨v', ?_, ownsRow_block h2 (fun g hg => Below.heap_setCell _ _ _ _ (by intro e; have e : g = b := e; subst e; have := h3 g hg; omega)), h3⟩
    rw [World.cell?_setCell_other _ _ _ _ (by intro x; injection x with x1 x2; exact hne (by rw [x1, x2]))]
    exact h1
theorem Good.shr_setR (h : Good E L S w) {b o : Nat} (hb : S.knows (b, o)) (v : Value) : Shr L w L (w.setCell ⟨b, o, none⟩ v) := by
  have hl := (h.knows hb).2.2
  dsimp only at hl
  exact Shr.set v (by show 1 ≤ L b; omega) (by show L b < 8; omega)
/-- A caller's new variables. -/
theorem Good.newR (h : Good E L S w) (vs : List Value) (ty : TypeId) :
    Good E (fun b => if b = w.heap.size then 5 else L b) (S.newR w.heap.size vs) (w.alloc (.cells vs.toArray ty)) ∧ Shr L w (fun b => if b = w.heap.size then 5 else L b) (w.alloc (.cells vs.toArray ty)) := by
  have hb : Below w.heap.size w (w.alloc (.cells vs.toArray ty)) := (Below.refl _ _).alloc (Nat.le_refl _) _
  have hg := h.below hb
  have hL : ∀ b, b < w.heap.size → (if b = w.heap.size then 5 else L b) = L b := fun b hb => by rw [if_neg (by omega)]
  have hne : ∀ b, L b ≠ 0 → b ≠ w.heap.size := fun b hb e => hb (e ▸ h.new _ (Nat.le_refl _))
  refine ⟨⟨hg.ok, hg.k0, hg.k1, hg.pl, ⟨hg.ar.a0, hg.ar.a1, hg.ar.af, hg.ar.c0, hg.ar.cf, hg.ar.ne, hg.ar.n2, hg.ar.m64, hg.ar.cnt2⟩, ?_, ?_, ?_, ?_, ?_, ?_, ?_, ?_⟩, ⟨hb.os, hb.tape, hb.output, hb.size, fun b hb' _ => hb.block b hb', hL⟩⟩
  · exact h.lg.below (hb.block _ (cell_lt h.k0)) (fun g hg hlt => ⟨hb.block g hlt, hL g hlt⟩)
  · intro b o v' hv
    rcases List.mem_append.1 hv with e | hv
    · obtain ⟨⟨x, i⟩, hm, he⟩ := List.mem_map.1 e
      obtain ⟨e1, rfl⟩ := Prod.mk.inj he
      obtain ⟨rfl, rfl⟩ := Prod.mk.inj e1
      have hi : vs[i]? = some x := List.mem_zipIdx_iff_getElem?.1 hm
      refine ⟨?_, by simp, by simp⟩
      rw [World.cell?_alloc_new]
      simpa using hi
    · obtain ⟨r1, r2, r3⟩ := hg.rg b o v' hv
      refine ⟨r1, r2, ?_⟩
      rw [if_neg (hne b (by omega))]; exact r3
  · rw [if_neg (hne _ (by have := h.lk; omega))]; exact h.lk
  · rw [if_neg (by have := cell_lt h.pl.c0; dsimp only at this; omega)]; exact h.lp
  · rw [if_neg (hne _ (by have := h.la; omega))]; exact h.la
  · rw [if_neg (hne _ (by have := h.lc; omega))]; exact h.lc
  · intro b hb'
    rw [World.size_alloc] at hb'
    rw [if_neg (by omega)]; exact h.new b (by omega)
  · intro s hs
    have hlt := (h.sv s hs).1.lt
    refine ⟨(h.sv s hs).1.below (hb.block _ hlt) (hL _ hlt) (fun g hg hlt => ⟨hb.block g hlt, hL g hlt⟩), fun q => ?_⟩
    unfold St.newR at q
    rw [List.map_append, List.mem_append] at q
    rcases q with q | q
    · obtain ⟨p, hm, he⟩ := List.mem_map.1 q
      obtain ⟨p2, _, e2⟩ := List.mem_map.1 hm
      subst e2
      have := congrArg Prod.fst he
      dsimp only at this
      omega
    · exact (h.sv s hs).2 q
end
theorem DidP.below_old {t : Nat} {L L' : Lab} {w W W' : World} {n : Nat} (h : DidP (TP t) L W L' W') (hb : Below n w W) (hn : n ≤ w.heap.size) (old : ∀ b, b < n → L b = 0) : Below n w W' :=
  ⟨h.os.trans hb.os, h.tape.trans hb.tape, h.output.trans hb.output, Nat.le_trans hb.size h.size, fun b hlt => (h.block b (Nat.lt_of_lt_of_le hlt (Nat.le_trans hn hb.size)) (by rw [old b hlt]; unfold TP; omega)).trans (hb.block b hlt)⟩
theorem Did.below_old {t : Nat} {L L' : Lab} {w W W' : World} {n : Nat} (h : Did t L W L' W') (hb : Below n w W) (hn : n ≤ w.heap.size) (old : ∀ b, b < n → L b = 0) : Below n w W' := h.toP.below_old hb hn old

end Go.Proofs.YtgemjjpmoejgdaaGreat
