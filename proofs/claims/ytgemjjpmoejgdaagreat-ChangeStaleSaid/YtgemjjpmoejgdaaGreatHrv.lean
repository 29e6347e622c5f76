/- A node's state, told by the core. -/
import Derived.Test.YtgemjjpmoejgdaaGreatHru
namespace Go.Proofs.YtgemjjpmoejgdaaGreat
open Go.RowKit
set_option maxRecDepth 100000
set_option linter.unusedVariables false

set_option maxHeartbeats 2000000 in
theorem core_state {E : G} {L : Lab} {S : St} {w : World} (hg : Good E L S w) (n : Int) (i : Nat) (h : E.cf.state n = (i : Int)) (hi : i < S.n) :
    Calls Tryz.prog 56 #[.pointer (some ⟨E.k, 0, none⟩), .int .i64 n] w fun e w' => e = .returned (.agg #[.int .i64 (part (S.m i) 32 32 : Nat), .int .i64 (part (S.m i) 2 30 : Nat), .int .i64 (part (S.m i) 0 2 : Nat)]) ∧ Below w.heap.size w w' := by
  have hal : Below w.heap.size w (w.alloc (.cells #[.int .i64 0, .int .i64 0, .int .i64 0] 105)) := (Below.refl _ _).alloc (Nat.le_refl _) _
  have HG := Go.Lib.hid (hg.below hal)
  have k0 := (hg.below hal).k0
  have m64 := hg.ar.m64 i
  have HP : Hid (∀ W, PlanAt W E.p E.cf → Calls Tryz.prog 139 #[.pointer (some ⟨E.p, 0, none⟩), .int .i64 n] W (Qt (.int .i64 i) W)) := fun W hW => by
    have := plan_State hg.ok E.p n W hW
    rwa [h] at this
  clear hg h
  have d0 : (w.alloc (.cells #[.int .i64 0, .int .i64 0, .int .i64 0] 105)).cell? ⟨w.heap.size, 0, none⟩ = some (.int .i64 0) := by go_simp
  have g0 : (w.alloc (.cells #[.int .i64 0, .int .i64 0, .int .i64 0] 105)).frozen? ⟨w.heap.size, 0, none⟩ = false := by go_simp
  have d1 : (w.alloc (.cells #[.int .i64 0, .int .i64 0, .int .i64 0] 105)).cell? ⟨w.heap.size, 1, none⟩ = some (.int .i64 0) := by go_simp
  have g1 : (w.alloc (.cells #[.int .i64 0, .int .i64 0, .int .i64 0] 105)).frozen? ⟨w.heap.size, 1, none⟩ = false := by go_simp
  have d2 : (w.alloc (.cells #[.int .i64 0, .int .i64 0, .int .i64 0] 105)).cell? ⟨w.heap.size, 2, none⟩ = some (.int .i64 0) := by go_simp
  have g2 : (w.alloc (.cells #[.int .i64 0, .int .i64 0, .int .i64 0] 105)).frozen? ⟨w.heap.size, 2, none⟩ = false := by go_simp
  go_enter Tryz.func56, Tryz.ntmps56
  go_wp2_with fail
  generalize (w.alloc (.cells #[.int .i64 0, .int .i64 0, .int .i64 0] 105)) = W0 at *
  refine (HP.out _ HG.out.pl).mono ?_
  intro e w1 hq
  obtain ⟨rfl, hb1⟩ := hq.below
  have HG1 := Go.Lib.hid (HG.out.below hb1)
  go_wp2_with fail
  refine (core_peek HG1.out i hi).mono ?_
  rintro e w2 ⟨rfl, hb2⟩
  go_wp2_with fail
  refine (of_StateOf (S.m i) w2 m64).mono ?_
  rintro e w3 ⟨rfl, hb3⟩
  have hB1 := hal.trans (hb1.mono hal.size)
  have hB2 := hB1.trans (hb2.mono hB1.size)
  have hB3 := hB2.trans (hb3.mono hB2.size)
  have z0 := below_cell hb3 (below_cell hb2 (below_cell hb1 d0))
  have z1 := below_cell hb3 (below_cell hb2 (below_cell hb1 d1))
  have z2 := below_cell hb3 (below_cell hb2 (below_cell hb1 d2))
  have f0 := ((hb3.frozen (cell_lt (below_cell hb2 (below_cell hb1 d0)))).trans (hb2.frozen (cell_lt (below_cell hb1 d0)))).trans ((hb1.frozen (cell_lt d0)).trans g0)
  have f1 := ((hb3.frozen (cell_lt (below_cell hb2 (below_cell hb1 d1)))).trans (hb2.frozen (cell_lt (below_cell hb1 d1)))).trans ((hb1.frozen (cell_lt d1)).trans g1)
  have f2 := ((hb3.frozen (cell_lt (below_cell hb2 (below_cell hb1 d2)))).trans (hb2.frozen (cell_lt (below_cell hb1 d2)))).trans ((hb1.frozen (cell_lt d2)).trans g2)
  clear hb1 hb2 hb3 HG HG1 HP k0 hq hB1 hB2 d0 d1 d2 g0 g1 g2 hal
  go_wp2
  have hb9 : Below w.heap.size w (((w3.setCell ⟨w.heap.size, 0, none⟩ (.int .i64 (part (S.m i) 32 32 : Nat))).setCell ⟨w.heap.size, 1, none⟩ (.int .i64 (part (S.m i) 2 30 : Nat))).setCell ⟨w.heap.size, 2, none⟩ (.int .i64 (part (S.m i) 0 2 : Nat))) := ((hB3.setCell (p := ⟨w.heap.size, 0, none⟩) (Nat.le_refl _) _).setCell (p := ⟨w.heap.size, 1, none⟩) (Nat.le_refl _) _).setCell (p := ⟨w.heap.size, 2, none⟩) (Nat.le_refl _) _
  have c0 : (((w3.setCell ⟨w.heap.size, 0, none⟩ (.int .i64 (part (S.m i) 32 32 : Nat))).setCell ⟨w.heap.size, 1, none⟩ (.int .i64 (part (S.m i) 2 30 : Nat))).setCell ⟨w.heap.size, 2, none⟩ (.int .i64 (part (S.m i) 0 2 : Nat))).cell? ⟨w.heap.size, 0, none⟩ = some (.int .i64 (part (S.m i) 32 32 : Nat)) := by
    rw [World.cell?_setCell_other _ _ _ _ (by simp), World.cell?_setCell_other _ _ _ _ (by simp), World.cell?_setCell_same _ _ _ z0]
  have c1 : (((w3.setCell ⟨w.heap.size, 0, none⟩ (.int .i64 (part (S.m i) 32 32 : Nat))).setCell ⟨w.heap.size, 1, none⟩ (.int .i64 (part (S.m i) 2 30 : Nat))).setCell ⟨w.heap.size, 2, none⟩ (.int .i64 (part (S.m i) 0 2 : Nat))).cell? ⟨w.heap.size, 1, none⟩ = some (.int .i64 (part (S.m i) 2 30 : Nat)) := by
    rw [World.cell?_setCell_other _ _ _ _ (by simp), World.cell?_setCell_same _ _ _ (by rw [World.cell?_setCell_other _ _ _ _ (by simp)]; exact z1)]
  have c2 : (((w3.setCell ⟨w.heap.size, 0, none⟩ (.int .i64 (part (S.m i) 32 32 : Nat))).setCell ⟨w.heap.size, 1, none⟩ (.int .i64 (part (S.m i) 2 30 : Nat))).setCell ⟨w.heap.size, 2, none⟩ (.int .i64 (part (S.m i) 0 2 : Nat))).cell? ⟨w.heap.size, 2, none⟩ = some (.int .i64 (part (S.m i) 0 2 : Nat)) := by
    rw [World.cell?_setCell_same _ _ _ (by rw [World.cell?_setCell_other _ _ _ _ (by simp), World.cell?_setCell_other _ _ _ _ (by simp)]; exact z2)]
  generalize (((w3.setCell ⟨w.heap.size, 0, none⟩ (.int .i64 (part (S.m i) 32 32 : Nat))).setCell ⟨w.heap.size, 1, none⟩ (.int .i64 (part (S.m i) 2 30 : Nat))).setCell ⟨w.heap.size, 2, none⟩ (.int .i64 (part (S.m i) 0 2 : Nat))) = w9 at *
  exact bodyPost_ret (v := .agg #[.int .i64 (part (S.m i) 32 32 : Nat), .int .i64 (part (S.m i) 2 30 : Nat), .int .i64 (part (S.m i) 0 2 : Nat)]) (by simp [results, Tryz.results56, go_sem, c0, c1, c2]) rfl ⟨rfl, hb9⟩
theorem of_State0 (w : World) : Calls Tryz.prog 152 #[.int .u64 0] w fun e w' => e = .returned (.agg #[.int .i64 0, .int .i64 0, .int .i64 0]) ∧ Below w.heap.size w w' := of_StateOf 0 w (by decide)
set_option maxHeartbeats 2000000 in
theorem core_state_no {E : G} {L : Lab} {S : St} {w : World} (hg : Good E L S w) (n : Int) (h : E.cf.state n = -1) :
    Calls Tryz.prog 56 #[.pointer (some ⟨E.k, 0, none⟩), .int .i64 n] w fun e w' => e = .returned (.agg #[.int .i64 0, .int .i64 0, .int .i64 0]) ∧ Below w.heap.size w w' := by
  have hal : Below w.heap.size w (w.alloc (.cells #[.int .i64 0, .int .i64 0, .int .i64 0] 105)) := (Below.refl _ _).alloc (Nat.le_refl _) _
  have HG := Go.Lib.hid (hg.below hal)
  have k0 := (hg.below hal).k0
  have HP : Hid (∀ W, PlanAt W E.p E.cf → Calls Tryz.prog 139 #[.pointer (some ⟨E.p, 0, none⟩), .int .i64 n] W (Qt (.int .i64 (-1)) W)) := fun W hW => by
    have := plan_State hg.ok E.p n W hW
    rwa [h] at this
  clear hg h
  have d0 : (w.alloc (.cells #[.int .i64 0, .int .i64 0, .int .i64 0] 105)).cell? ⟨w.heap.size, 0, none⟩ = some (.int .i64 0) := by go_simp
  have g0 : (w.alloc (.cells #[.int .i64 0, .int .i64 0, .int .i64 0] 105)).frozen? ⟨w.heap.size, 0, none⟩ = false := by go_simp
  have d1 : (w.alloc (.cells #[.int .i64 0, .int .i64 0, .int .i64 0] 105)).cell? ⟨w.heap.size, 1, none⟩ = some (.int .i64 0) := by go_simp
  have g1 : (w.alloc (.cells #[.int .i64 0, .int .i64 0, .int .i64 0] 105)).frozen? ⟨w.heap.size, 1, none⟩ = false := by go_simp
  have d2 : (w.alloc (.cells #[.int .i64 0, .int .i64 0, .int .i64 0] 105)).cell? ⟨w.heap.size, 2, none⟩ = some (.int .i64 0) := by go_simp
  have g2 : (w.alloc (.cells #[.int .i64 0, .int .i64 0, .int .i64 0] 105)).frozen? ⟨w.heap.size, 2, none⟩ = false := by go_simp
  go_enter Tryz.func56, Tryz.ntmps56
  go_wp2_with fail
  generalize (w.alloc (.cells #[.int .i64 0, .int .i64 0, .int .i64 0] 105)) = W0 at *
  refine (HP.out _ HG.out.pl).mono ?_
  intro e w1 hq
  obtain ⟨rfl, hb1⟩ := hq.below
  have HG1 := Go.Lib.hid (HG.out.below hb1)
  go_wp2_with fail
  refine (core_peek_no HG1.out (-1) (by decide)).mono ?_
  rintro e w2 ⟨rfl, hw2⟩
  have hb2 : Below w1.heap.size w1 w2 := by rw [hw2]; exact Below.refl _ _
  clear hw2
  go_wp2_with fail
  refine (of_State0 w2).mono ?_
  rintro e w3 ⟨rfl, hb3⟩
  have hB1 := hal.trans (hb1.mono hal.size)
  have hB2 := hB1.trans (hb2.mono hB1.size)
  have hB3 := hB2.trans (hb3.mono hB2.size)
  have z0 := below_cell hb3 (below_cell hb2 (below_cell hb1 d0))
  have z1 := below_cell hb3 (below_cell hb2 (below_cell hb1 d1))
  have z2 := below_cell hb3 (below_cell hb2 (below_cell hb1 d2))
  have f0 := ((hb3.frozen (cell_lt (below_cell hb2 (below_cell hb1 d0)))).trans (hb2.frozen (cell_lt (below_cell hb1 d0)))).trans ((hb1.frozen (cell_lt d0)).trans g0)
  have f1 := ((hb3.frozen (cell_lt (below_cell hb2 (below_cell hb1 d1)))).trans (hb2.frozen (cell_lt (below_cell hb1 d1)))).trans ((hb1.frozen (cell_lt d1)).trans g1)
  have f2 := ((hb3.frozen (cell_lt (below_cell hb2 (below_cell hb1 d2)))).trans (hb2.frozen (cell_lt (below_cell hb1 d2)))).trans ((hb1.frozen (cell_lt d2)).trans g2)
  clear hb1 hb2 hb3 HG HG1 HP k0 hq hB1 hB2 d0 d1 d2 g0 g1 g2 hal
  go_wp2
  have hb9 : Below w.heap.size w (((w3.setCell ⟨w.heap.size, 0, none⟩ (.int .i64 0)).setCell ⟨w.heap.size, 1, none⟩ (.int .i64 0)).setCell ⟨w.heap.size, 2, none⟩ (.int .i64 0)) := ((hB3.setCell (p := ⟨w.heap.size, 0, none⟩) (Nat.le_refl _) _).setCell (p := ⟨w.heap.size, 1, none⟩) (Nat.le_refl _) _).setCell (p := ⟨w.heap.size, 2, none⟩) (Nat.le_refl _) _
  have c0 : (((w3.setCell ⟨w.heap.size, 0, none⟩ (.int .i64 0)).setCell ⟨w.heap.size, 1, none⟩ (.int .i64 0)).setCell ⟨w.heap.size, 2, none⟩ (.int .i64 0)).cell? ⟨w.heap.size, 0, none⟩ = some (.int .i64 0) := by
    rw [World.cell?_setCell_other _ _ _ _ (by simp), World.cell?_setCell_other _ _ _ _ (by simp), World.cell?_setCell_same _ _ _ z0]
  have c1 : (((w3.setCell ⟨w.heap.size, 0, none⟩ (.int .i64 0)).setCell ⟨w.heap.size, 1, none⟩ (.int .i64 0)).setCell ⟨w.heap.size, 2, none⟩ (.int .i64 0)).cell? ⟨w.heap.size, 1, none⟩ = some (.int .i64 0) := by
    rw [World.cell?_setCell_other _ _ _ _ (by simp), World.cell?_setCell_same _ _ _ (by rw [World.cell?_setCell_other _ _ _ _ (by simp)]; exact z1)]
  have c2 : (((w3.setCell ⟨w.heap.size, 0, none⟩ (.int .i64 0)).setCell ⟨w.heap.size, 1, none⟩ (.int .i64 0)).setCell ⟨w.heap.size, 2, none⟩ (.int .i64 0)).cell? ⟨w.heap.size, 2, none⟩ = some (.int .i64 0) := by
    rw [World.cell?_setCell_same _ _ _ (by rw [World.cell?_setCell_other _ _ _ _ (by simp), World.cell?_setCell_other _ _ _ _ (by simp)]; exact z2)]
  generalize (((w3.setCell ⟨w.heap.size, 0, none⟩ (.int .i64 0)).setCell ⟨w.heap.size, 1, none⟩ (.int .i64 0)).setCell ⟨w.heap.size, 2, none⟩ (.int .i64 0)) = w9 at *
  exact bodyPost_ret (v := .agg #[.int .i64 0, .int .i64 0, .int .i64 0]) (by simp [results, Tryz.results56, go_sem, c0, c1, c2]) rfl ⟨rfl, hb9⟩
/-- A node's state, of whatever number. -/
def stA (c : Cf) (m : Nat → Nat) (n : Int) : Nat := if 0 ≤ n ∧ n < (c.nodes : Int) then m (c.nodesAt + 4 * n.toNat) else 0
theorem core_state_any {E : G} {L : Lab} {S : St} {w : World} (hg : Good E L S w) (hn : S.n = E.cf.size) (n : Int) :
    Calls Tryz.prog 56 #[.pointer (some ⟨E.k, 0, none⟩), .int .i64 n] w fun e w' => e = .returned (.agg #[.int .i64 (part (stA E.cf S.m n) 32 32 : Nat), .int .i64 (part (stA E.cf S.m n) 2 30 : Nat), .int .i64 (part (stA E.cf S.m n) 0 2 : Nat)]) ∧ Below w.heap.size w w' := by
  unfold stA
  by_cases h : 0 ≤ n ∧ n < (E.cf.nodes : Int)
  · rw [if_pos h]
    obtain ⟨i, rfl⟩ : ∃ i : Nat, n = (i : Int) := ⟨n.toNat, by omega⟩
    have hi : i < E.cf.nodes := by omega
    have hl := nlk_lt hi
    have hts : E.cf.ticketsAt ≤ E.cf.size := by unfold Cf.size Cf.connsAt; omega
    rw [Int.toNat_natCast]
    exact core_state hg _ _ (state_at E.cf i hi) (by unfold nlk at hl; omega)
  · rw [if_neg h]
    exact core_state_no hg n (state_none E.cf n h)
end Go.Proofs.YtgemjjpmoejgdaaGreat
/- The lists of what there is. -/
namespace Go.Proofs.YtgemjjpmoejgdaaGreat
open Go.RowKit
set_option maxRecDepth 100000
set_option linter.unusedVariables false

theorem nodup_length : ∀ (n : Nat) (xs : List Nat), xs.Nodup → (∀ x ∈ xs, x < n) → xs.length ≤ n
  | 0, xs, _, h => by
    cases xs with
    | nil => exact Nat.le_refl _
    | cons x xs => exact absurd (h x (List.mem_cons_self ..)) (Nat.not_lt_zero _)
  | n + 1, xs, hn, h => by
    have h1 := nodup_length n (xs.erase n) (hn.erase n) (fun x hx => by
      have h2 := h x (List.mem_of_mem_erase hx)
      have h3 : x ≠ n := fun e => by subst e; exact (List.Nodup.not_mem_erase hn) hx
      omega)
    have h4 := List.length_erase (a := n) (l := xs)
    split at h4 <;> omega
section
variable {E : G} {L : Lab} {S : St} {w : World} {fn ft : List Nat} {bx : Nat → List Nat}
theorem Cf.Ok.sizes {c : Cf} (hok : c.Ok) : c.nodes ≤ c.size ∧ c.tickets ≤ c.size ∧ c.nodes ≤ 1000000 ∧ c.tickets ≤ 1000000 ∧ c.size = c.size := by
  have := hok.n2; have := hok.t2
  have h1 : c.ticketsAt = c.nodesAt + 4 * c.nodes := rfl
  have h2 : c.connsAt = c.ticketsAt + 3 * c.tickets := rfl
  have h3 : c.size = c.connsAt + c.conns := rfl
  omega
def ints (xs : List Nat) : List Value := xs.map fun (x : Nat) => Value.int .i64 (x : Int)
theorem nodes_list (hg : Good E L S w) (hn : S.n = E.cf.size) (hs : Shop E.cf S.m fn ft bx) :
    Calls Tryz.prog 58 #[nodesVal E] w fun e w' => ∃ v, e = .returned v ∧ w'.ownsRow w.heap.size 3 1 v fn.length (ints fn) ∧ Below w.heap.size w w' := by
  have hz := hg.ok.sizes
  have n9 := hg.ok.nodesAt_le
  have hsz := hg.ok.size_le
  refine stack_list hg 155 (fun _ _ => by kernel_rfl) 1 (by omega) (nlk E.cf) fn (fun x hx w hp => ?_) (hs.nodes.chain hs.nlt (fun x hx => ?_) hz.2.2.1) ?_
  · have h := plan_NodeLink hg.ok E.p x w hp
    rwa [nodeLink_at E.cf x (hs.nlt x hx)] at h
  · have := nlk_lt hx
    have : E.cf.ticketsAt ≤ E.cf.size := by unfold Cf.size Cf.connsAt; omega
    omega
  · have := nodup_length _ fn hs.nnd hs.nlt
    omega
theorem tickets_list (hg : Good E L S w) (hn : S.n = E.cf.size) (hs : Shop E.cf S.m fn ft bx) :
    Calls Tryz.prog 58 #[ticketsVal E] w fun e w' => ∃ v, e = .returned v ∧ w'.ownsRow w.heap.size 3 1 v ft.length (ints ft) ∧ Below w.heap.size w w' := by
  have hz := hg.ok.sizes
  have n9 := hg.ok.nodesAt_le
  have hsz := hg.ok.size_le
  refine stack_list hg 100 (fun _ _ => by kernel_rfl) 2 (by omega) (tlk E.cf) ft (fun x hx w hp => ?_) (hs.tickets.chain hs.tlt (fun x hx => ?_) hz.2.2.2.1) ?_
  · have h := plan_TicketLink hg.ok E.p x w hp
    rwa [ticketLink_at E.cf x (hs.tlt x hx)] at h
  · have := tlk_lt hx
    omega
  · have := nodup_length _ ft hs.tnd hs.tlt
    omega
end
end Go.Proofs.YtgemjjpmoejgdaaGreat
