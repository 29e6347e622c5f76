/- Deeds that are done alone, whose callers take events. -/
import Derived.Test.YtgemjjpmoejgdaaGreatJoinw
import Derived.Deep.RegionHeld3
namespace Go.Proofs.YtgemjjpmoejgdaaGreat
open Go.RowKit
set_option maxRecDepth 100000
set_option linter.unusedVariables false

section
variable {ρ : Type} {V : ρ → Ev → St → St × Option (K (PR ρ))} {c : Cf} {S : St} {fn ft : List Nat} {bx : Nat → List Nat} {R : ShopR} {r : ρ}
end
end Go.Proofs.YtgemjjpmoejgdaaGreat
/- The example of chapter 17. -/
namespace Go.Proofs.YtgemjjpmoejgdaaGreat
open Go.RowKit
set_option maxRecDepth 100000
set_option linter.unusedVariables false

end Go.Proofs.YtgemjjpmoejgdaaGreat
/- A node's state, told by the core. -/
namespace Go.Proofs.YtgemjjpmoejgdaaGreat
open Go.RowKit
set_option maxRecDepth 100000
set_option linter.unusedVariables false

set_option maxHeartbeats 2000000 in
theorem core_state {E : G} {L : Lab} {S : St} {w : World} (hg : Good E L S w) (n : Int) (i : Nat) (h : E.cf.state n = (i : Int)) (hi : i < S.n) :
    Calls Tryz.prog 56 #[.pointer (some ⟨E.k, 0, none⟩), .int .i64 n] w fun e w' => e = .returned (.agg #[.int .i64 (part (S.m i) 32 32 : Nat), .int .i64 (part (S.m i) 2 30 : Nat), .int .i64 (part (S.m i) 0 2 : Nat)]) ∧ Below w.heap.size w w' := by
  have hal : Below w.heap.size w (w.alloc (.cells #[.int .i64 0, .int .i64 0, .int .i64 0] 105)) := (Below.refl _ _).alloc (Nat.le_refl _) _
  have HG := Go.Lib.hid (hg.below hal)
  have k0 := (hg.below hal).k0
  have m64 := hg.ar.m64 i
  have HP : Hid (∀ W, PlanAt W E.p E.cf → Calls Tryz.prog 139 #[.pointer (some ⟨E.p, 0, none⟩), .int .i64 n] W (Qt (.int .i64 i) W)) := fun W hW => by
    have := plan_State hg.ok E.p n W hW
    rwa [h] at this
  clear hg h
  have d0 : (w.alloc (.cells #[.int .i64 0, .int .i64 0, .int .i64 0] 105)).cell? ⟨w.heap.size, 0, none⟩ = some (.int .i64 0) := by go_simp
  have g0 : (w.alloc (.cells #[.int .i64 0, .int .i64 0, .int .i64 0] 105)).frozen? ⟨w.heap.size, 0, none⟩ = false := by go_simp
  have d1 : (w.alloc (.cells #[.int .i64 0, .int .i64 0, .int .i64 0] 105)).cell? ⟨w.heap.size, 1, none⟩ = some (.int .i64 0) := by go_simp
  have g1 : (w.alloc (.cells #[.int .i64 0, .int .i64 0, .int .i64 0] 105)).frozen? ⟨w.heap.size, 1, none⟩ = false := by go_simp
  have d2 : (w.alloc (.cells #[.int .i64 0, .int .i64 0, .int .i64 0] 105)).cell? ⟨w.heap.size, 2, none⟩ = some (.int .i64 0) := by go_simp
  have g2 : (w.alloc (.cells #[.int .i64 0, .int .i64 0, .int .i64 0] 105)).frozen? ⟨w.heap.size, 2, none⟩ = false := by go_simp
  go_enter Tryz.func56, Tryz.ntmps56
  go_wp2_with fail
  generalize (w.alloc (.cells #[.int .i64 0, .int .i64 0, .int .i64 0] 105)) = W0 at *
  refine (HP.out _ HG.out.pl).mono ?_
  intro e w1 hq
  obtain ⟨rfl, hb1⟩ := hq.below
  have HG1 := Go.Lib.hid (HG.out.below hb1)
  go_wp2_with fail
  refine (core_peek HG1.out i hi).mono ?_
  rintro e w2 ⟨rfl, hb2⟩
  go_wp2_with fail
  refine (of_StateOf (S.m i) w2 m64).mono ?_
  rintro e w3 ⟨rfl, hb3⟩
  have hB1 := hal.trans (hb1.mono hal.size)
  have hB2 := hB1.trans (hb2.mono hB1.size)
  have hB3 := hB2.trans (hb3.mono hB2.size)
  have z0 := below_cell hb3 (below_cell hb2 (below_cell hb1 d0))
  have z1 := below_cell hb3 (below_cell hb2 (below_cell hb1 d1))
  have z2 := below_cell hb3 (below_cell hb2 (below_cell hb1 d2))
  have f0 := ((hb3.frozen (cell_lt (below_cell hb2 (below_cell hb1 d0)))).trans (hb2.frozen (cell_lt (below_cell hb1 d0)))).trans ((hb1.frozen (cell_lt d0)).trans g0)
  have f1 := ((hb3.frozen (cell_lt (below_cell hb2 (below_cell hb1 d1)))).trans (hb2.frozen (cell_lt (below_cell hb1 d1)))).trans ((hb1.frozen (cell_lt d1)).trans g1)
  have f2 := ((hb3.frozen (cell_lt (below_cell hb2 (below_cell hb1 d2)))).trans (hb2.frozen (cell_lt (below_cell hb1 d2)))).trans ((hb1.frozen (cell_lt d2)).trans g2)
  clear hb1 hb2 hb3 HG HG1 HP k0 hq hB1 hB2 d0 d1 d2 g0 g1 g2 hal
  go_wp2
  have hb9 : Below w.heap.size w (((w3.setCell ⟨w.heap.size, 0, none⟩ (.int .i64 (part (S.m i) 32 32 : Nat))).setCell ⟨w.heap.size, 1, none⟩ (.int .i64 (part (S.m i) 2 30 : Nat))).setCell ⟨w.heap.size, 2, none⟩ (.int .i64 (part (S.m i) 0 2 : Nat))) := ((hB3.setCell (p := ⟨w.heap.size, 0, none⟩) (Nat.le_refl _) _).setCell (p := ⟨w.heap.size, 1, none⟩) (Nat.le_refl _) _).setCell (p := ⟨w.heap.size, 2, none⟩) (Nat.le_refl _) _
  have c0 : (((w3.setCell ⟨w.heap.size, 0, none⟩ (.int .i64 (part (S.m i) 32 32 : Nat))).setCell ⟨w.heap.size, 1, none⟩ (.int .i64 (part (S.m i) 2 30 : Nat))).setCell ⟨w.heap.size, 2, none⟩ (.int .i64 (part (S.m i) 0 2 : Nat))).cell? ⟨w.heap.size, 0, none⟩ = some (.int .i64 (part (S.m i) 32 32 : Nat)) := by
    rw [World.cell?_setCell_other _ _ _ _ (by simp), World.cell?_setCell_other _ _ _ _ (by simp), World.cell?_setCell_same _ _ _ z0]
  have c1 : (((w3.setCell ⟨w.heap.size, 0, none⟩ (.int .i64 (part (S.m i) 32 32 : Nat))).setCell ⟨w.heap.size, 1, none⟩ (.int .i64 (part (S.m i) 2 30 : Nat))).setCell ⟨w.heap.size, 2, none⟩ (.int .i64 (part (S.m i) 0 2 : Nat))).cell? ⟨w.heap.size, 1, none⟩ = some (.int .i64 (part (S.m i) 2 30 : Nat)) := by
    rw [World.cell?_setCell_other _ _ _ _ (by simp), World.cell?_setCell_same _ _ _ (by rw [World.cell?_setCell_other _ _ _ _ (by simp)]; exact z1)]
  have c2 : (((w3.setCell ⟨w.heap.size, 0, none⟩ (.int .i64 (part (S.m i) 32 32 : Nat))).setCell ⟨w.heap.size, 1, none⟩ (.int .i64 (part (S.m i) 2 30 : Nat))).setCell ⟨w.heap.size, 2, none⟩ (.int .i64 (part (S.m i) 0 2 : Nat))).cell? ⟨w.heap.size, 2, none⟩ = some (.int .i64 (part (S.m i) 0 2 : Nat)) := by
    rw [World.cell?_setCell_same _ _ _ (by rw [World.cell?_setCell_other _ _ _ _ (by simp), World.cell?_setCell_other _ _ _ _ (by simp)]; exact z2)]
  generalize (((w3.setCell ⟨w.heap.size, 0, none⟩ (.int .i64 (part (S.m i) 32 32 : Nat))).setCell ⟨w.heap.size, 1, none⟩ (.int .i64 (part (S.m i) 2 30 : Nat))).setCell ⟨w.heap.size, 2, none⟩ (.int .i64 (part (S.m i) 0 2 : Nat))) = w9 at *
  exact bodyPost_ret (v := .agg #[.int .i64 (part (S.m i) 32 32 : Nat), .int .i64 (part (S.m i) 2 30 : Nat), .int .i64 (part (S.m i) 0 2 : Nat)]) (by simp [results, Tryz.results56, go_sem, c0, c1, c2]) rfl ⟨rfl, hb9⟩
theorem of_State0 (w : World) : Calls Tryz.prog 152 #[.int .u64 0] w fun e w' => e = .returned (.agg #[.int .i64 0, .int .i64 0, .int .i64 0]) ∧ Below w.heap.size w w' := of_StateOf 0 w (by decide)
set_option maxHeartbeats 2000000 in
theorem core_state_no {E : G} {L : Lab} {S : St} {w : World} (hg : Good E L S w) (n : Int) (h : E.cf.state n = -1) :
    Calls Tryz.prog 56 #[.pointer (some ⟨E.k, 0, none⟩), .int .i64 n] w fun e w' => e = .returned (.agg #[.int .i64 0, .int .i64 0, .int .i64 0]) ∧ Below w.heap.size w w' := by
  have hal : Below w.heap.size w (w.alloc (.cells #[.int .i64 0, .int .i64 0, .int .i64 0] 105)) := (Below.refl _ _).alloc (Nat.le_refl _) _
  have HG := Go.Lib.hid (hg.below hal)
  have k0 := (hg.below hal).k0
  have HP : Hid (∀ W, PlanAt W E.p E.cf → Calls Tryz.prog 139 #[.pointer (some ⟨E.p, 0, none⟩), .int .i64 n] W (Qt (.int .i64 (-1)) W)) := fun W hW => by
    have := plan_State hg.ok E.p n W hW
    rwa [h] at this
  clear hg h
  have d0 : (w.alloc (.cells #[.int .i64 0, .int .i64 0, .int .i64 0] 105)).cell? ⟨w.heap.size, 0, none⟩ = some (.int .i64 0) := by go_simp
  have g0 : (w.alloc (.cells #[.int .i64 0, .int .i64 0, .int .i64 0] 105)).frozen? ⟨w.heap.size, 0, none⟩ = false := by go_simp
  have d1 : (w.alloc (.cells #[.int .i64 0, .int .i64 0, .int .i64 0] 105)).cell? ⟨w.heap.size, 1, none⟩ = some (.int .i64 0) := by go_simp
  have g1 : (w.alloc (.cells #[.int .i64 0, .int .i64 0, .int .i64 0] 105)).frozen? ⟨w.heap.size, 1, none⟩ = false := by go_simp
  have d2 : (w.alloc (.cells #[.int .i64 0, .int .i64 0, .int .i64 0] 105)).cell? ⟨w.heap.size, 2, none⟩ = some (.int .i64 0) := by go_simp
  have g2 : (w.alloc (.cells #[.int .i64 0, .int .i64 0, .int .i64 0] 105)).frozen? ⟨w.heap.size, 2, none⟩ = false := by go_simp
  go_enter Tryz.func56, Tryz.ntmps56
  go_wp2_with fail
  generalize (w.alloc (.cells #[.int .i64 0, .int .i64 0, .int .i64 0] 105)) = W0 at *
  refine (HP.out _ HG.out.pl).mono ?_
  intro e w1 hq
  obtain ⟨rfl, hb1⟩ := hq.below
  have HG1 := Go.Lib.hid (HG.out.below hb1)
  go_wp2_with fail
  refine (core_peek_no HG1.out (-1) (by decide)).mono ?_
  rintro e w2 ⟨rfl, hw2⟩
  have hb2 : Below w1.heap.size w1 w2 := by rw [hw2]; exact Below.refl _ _
  clear hw2
  go_wp2_with fail
  refine (of_State0 w2).mono ?_
  rintro e w3 ⟨rfl, hb3⟩
  have hB1 := hal.trans (hb1.mono hal.size)
  have hB2 := hB1.trans (hb2.mono hB1.size)
  have hB3 := hB2.trans (hb3.mono hB2.size)
  have z0 := below_cell hb3 (below_cell hb2 (below_cell hb1 d0))
  have z1 := below_cell hb3 (below_cell hb2 (below_cell hb1 d1))
  have z2 := below_cell hb3 (below_cell hb2 (below_cell hb1 d2))
  have f0 := ((hb3.frozen (cell_lt (below_cell hb2 (below_cell hb1 d0)))).trans (hb2.frozen (cell_lt (below_cell hb1 d0)))).trans ((hb1.frozen (cell_lt d0)).trans g0)
  have f1 := ((hb3.frozen (cell_lt (below_cell hb2 (below_cell hb1 d1)))).trans (hb2.frozen (cell_lt (below_cell hb1 d1)))).trans ((hb1.frozen (cell_lt d1)).trans g1)
  have f2 := ((hb3.frozen (cell_lt (below_cell hb2 (below_cell hb1 d2)))).trans (hb2.frozen (cell_lt (below_cell hb1 d2)))).trans ((hb1.frozen (cell_lt d2)).trans g2)
  clear hb1 hb2 hb3 HG HG1 HP k0 hq hB1 hB2 d0 d1 d2 g0 g1 g2 hal
  go_wp2
  have hb9 : Below w.heap.size w (((w3.setCell ⟨w.heap.size, 0, none⟩ (.int .i64 0)).setCell ⟨w.heap.size, 1, none⟩ (.int .i64 0)).setCell ⟨w.heap.size, 2, none⟩ (.int .i64 0)) := ((hB3.setCell (p := ⟨w.heap.size, 0, none⟩) (Nat.le_refl _) _).setCell (p := ⟨w.heap.size, 1, none⟩) (Nat.le_refl _) _).setCell (p := ⟨w.heap.size, 2, none⟩) (Nat.le_refl _) _
  have c0 : (((w3.setCell ⟨w.heap.size, 0, none⟩ (.int .i64 0)).setCell ⟨w.heap.size, 1, none⟩ (.int .i64 0)).setCell ⟨w.heap.size, 2, none⟩ (.int .i64 0)).cell? ⟨w.heap.size, 0, none⟩ = some (.int .i64 0) := by
    rw [World.cell?_setCell_other _ _ _ _ (by simp), World.cell?_setCell_other _ _ _ _ (by simp), World.cell?_setCell_same _ _ _ z0]
  have c1 : (((w3.setCell ⟨w.heap.size, 0, none⟩ (.int .i64 0)).setCell ⟨w.heap.size, 1, none⟩ (.int .i64 0)).setCell ⟨w.heap.size, 2, none⟩ (.int .i64 0)).cell? ⟨w.heap.size, 1, none⟩ = some (.int .i64 0) := by
    rw [World.cell?_setCell_other _ _ _ _ (by simp), World.cell?_setCell_same _ _ _ (by rw [World.cell?_setCell_other _ _ _ _ (by simp)]; exact z1)]
  have c2 : (((w3.setCell ⟨w.heap.size, 0, none⟩ (.int .i64 0)).setCell ⟨w.heap.size, 1, none⟩ (.int .i64 0)).setCell ⟨w.heap.size, 2, none⟩ (.int .i64 0)).cell? ⟨w.heap.size, 2, none⟩ = some (.int .i64 0) := by
    rw [World.cell?_setCell_same _ _ _ (by rw [World.cell?_setCell_other _ _ _ _ (by simp), World.cell?_setCell_other _ _ _ _ (by simp)]; exact z2)]
  generalize (((w3.setCell ⟨w.heap.size, 0, none⟩ (.int .i64 0)).setCell ⟨w.heap.size, 1, none⟩ (.int .i64 0)).setCell ⟨w.heap.size, 2, none⟩ (.int .i64 0)) = w9 at *
  exact bodyPost_ret (v := .agg #[.int .i64 0, .int .i64 0, .int .i64 0]) (by simp [results, Tryz.results56, go_sem, c0, c1, c2]) rfl ⟨rfl, hb9⟩
/-- A node's state, of whatever number. -/
def stA (c : Cf) (m : Nat → Nat) (n : Int) : Nat := if 0 ≤ n ∧ n < (c.nodes : Int) then m (c.nodesAt + 4 * n.toNat) else 0
theorem core_state_any {E : G} {L : Lab} {S : St} {w : World} (hg : Good E L S w) (hn : S.n = E.cf.size) (n : Int) :
    Calls Tryz.prog 56 #[.pointer (some ⟨E.k, 0, none⟩), .int .i64 n] w fun e w' => e = .returned (.agg #[.int .i64 (part (stA E.cf S.m n) 32 32 : Nat), .int .i64 (part (stA E.cf S.m n) 2 30 : Nat), .int .i64 (part (stA E.cf S.m n) 0 2 : Nat)]) ∧ Below w.heap.size w w' := by
  unfold stA
  by_cases h : 0 ≤ n ∧ n < (E.cf.nodes : Int)
  · rw [if_pos h]
    obtain ⟨i, rfl⟩ : ∃ i : Nat, n = (i : Int) := ⟨n.toNat, by omega⟩
    have hi : i < E.cf.nodes := by omega
    have hl := nlk_lt hi
    have hts : E.cf.ticketsAt ≤ E.cf.size := by unfold Cf.size Cf.connsAt; omega
    rw [Int.toNat_natCast]
    exact core_state hg _ _ (state_at E.cf i hi) (by unfold nlk at hl; omega)
  · rw [if_neg h]
    exact core_state_no hg n (state_none E.cf n h)
end Go.Proofs.YtgemjjpmoejgdaaGreat
/- A Cancel, or a Rearm, of a handle that isn't armed. -/
namespace Go.Proofs.YtgemjjpmoejgdaaGreat
open Go.RowKit
set_option maxRecDepth 100000
set_option linter.unusedVariables false

/-- A slice of numbers that is nobody's. -/
structure OwnL (L : Lab) (w : World) (v : Value) (xs : List Nat) : Prop where
  own : w.ownsRow 0 3 1 v xs.length (ints xs)
  lab : ∀ g, v.ownBlock = some g → L g = 0
theorem OwnL.below {L : Lab} {w w' : World} {v : Value} {xs : List Nat} (h : OwnL L w v xs) (hb : Below w.heap.size w w') : OwnL L w' v xs := ⟨own_kept h.own fun g hg => hb.block g (own_lt h.own hg), h.lab⟩
theorem TaskAt.below {w w' : World} {L : Lab} {t tb : Nat} {v : Value} {s : Nat} (h : TaskAt w L t tb v s) (hb : Below w.heap.size w w') : TaskAt w' L t tb v s :=
  ⟨below_cell hb h.c0, below_cell hb h.c1, (hb.frozen (p := ⟨tb, 0, none⟩) (cell_lt h.c0)).trans h.f0, (hb.frozen (p := ⟨tb, 1, none⟩) (cell_lt h.c1)).trans h.f1, h.lb⟩
end Go.Proofs.YtgemjjpmoejgdaaGreat
/- knelllaw16.Is: the machine's cells, and the document's shop. -/
namespace Go.Proofs.YtgemjjpmoejgdaaGreat
open Go.RowKit
set_option maxRecDepth 100000
set_option linter.unusedVariables false

theorem tlk_size (c : Cf) : c.ticketsAt + 3 * c.tickets ≤ c.size := by unfold Cf.size Cf.connsAt; omega

theorem arm_key2 {E : G} {L : Lab} {w : World} {S : St} (hg : Good E L S w) (n : Int) : ∀ W, Below w.heap.size w W → Calls Tryz.prog 50 #[.pointer (some ⟨E.p, 0, none⟩), .int .i64 n] W fun e w' => e = .returned (.int .i64 (E.cf.key n)) ∧ Below W.heap.size W w' :=
  fun W hW => (plan_Key hg.ok E.p n W (hg.below hW).pl).mono fun _ _ h => h.below
theorem arm_time2 {E : G} {L : Lab} {w : World} {S : St} (hg : Good E L S w) (n : Int) : ∀ W, Below w.heap.size w W → Calls Tryz.prog 97 #[.pointer (some ⟨E.p, 0, none⟩), .int .i64 n] W fun e w' => e = .returned (.int .i64 (E.cf.time n)) ∧ Below W.heap.size W w' :=
  fun W hW => (plan_Time hg.ok E.p n W (hg.below hW).pl).mono fun _ _ h => h.below
theorem KRows.cell1 {K : Nat → Prop} {w : World} {p : Option Addr} {n c : Nat} {us : List Value} (h : KRows K w 1 (.slice p n c) (us.map fun u => [u])) {i : Nat} (hi : i < us.length) : ∃ g o, p = some ⟨g, o, none⟩ ∧ w.cell? ⟨g, o + i, none⟩ = some us[i] := by
  obtain ⟨p', c', e, h1⟩ := h.at'
  obtain ⟨g, o, e2, h2⟩ := h1 i [us[i]] (by rw [List.getElem?_map, List.getElem?_eq_getElem hi]; rfl)
  subst e2
  injection e with e3
  have := h2 0 _ rfl
  rw [Nat.mul_one, Nat.add_zero] at this
  exact ⟨g, o, e3, this⟩
theorem KTicks.cells {K : Nat → Prop} {w : World} {p : Option Addr} {n c : Nat} {ts : List TickR} (h : KTicks K w (.slice p n c) ts) {i : Nat} (hi : i < ts.length) : ∃ g o, p = some ⟨g, o, none⟩ ∧ ∀ j, j < 4 → w.cell? ⟨g, o + i * 4 + j, none⟩ = (ts[i]).cells[j]? := by
  obtain ⟨p', c', e, h1⟩ := h.at'
  obtain ⟨g, o, e2, h2⟩ := h1 i (ts[i]).cells (by rw [List.getElem?_map, List.getElem?_eq_getElem hi]; rfl)
  subst e2
  injection e with e3
  refine ⟨g, o, e3, fun j hj => ?_⟩
  have : (ts[i]).cells[j]? = some ((ts[i]).cells[j]'(by simpa [TickR.cells] using hj)) := List.getElem?_eq_getElem _
  rw [this]
  exact h2 j _ this

set_option maxHeartbeats 8000000 in
theorem law16_Is {E : G} {L : Lab} {S : St} {R : ShopR} {fn ft : List Nat} {bx : Nat → List Nat} {w : World} (hg : Good E L S w) (hn : S.n = E.cf.size) (hr : RelR E.cf S.m R fn ft bx) (x : Nat → Int) (vw v : Value) (K : Nat → Prop) (hs : ShopAt K w x vw v R) (hK : ∀ b, K b → b < w.heap.size) :
    Calls Tryz.prog 22 #[.pointer (some ⟨E.k, 0, none⟩), v] w fun e w' => e = .returned (.bool true) ∧ Below w.heap.size w w' := by
  obtain ⟨vf, vn, vb, us, rfl, hf, hno, hbx⟩ := hs.ex
  obtain ⟨pn, cn, rfl, _⟩ := hno.form
  obtain ⟨pb, cb, rfl, _⟩ := hbx.outer.form
  rw [List.length_map] at hno hbx ⊢
  rw [List.length_map]
  have HF := Go.Lib.hid hf; have HNO := Go.Lib.hid hno; have HX := Go.Lib.hid hbx; have HK := Go.Lib.hid hK; have HR := Go.Lib.hid hr; have HSN := Go.Lib.hid hn
  have hbA : Below w.heap.size w (w.alloc (.cells #[.int .i64 (x 0), .int .i64 (x 1), .int .i64 (x 2), .int .i64 (x 3), .int .i64 (x 4), .int .i64 (x 5), .int .i64 (x 6), .int .i64 (x 7), .int .i64 (x 8), .int .i64 (x 9), .int .i64 (x 10), .int .i64 (x 11), .int .i64 (x 12), .int .i64 (R.clock : Int), vf, .int .i64 (R.tickets : Int), (.slice pn R.nodes.length cn), (.slice pb us.length cb), vw] 33)) := (Below.refl _ _).alloc (Nat.le_refl _) _
  have bA : (w.alloc (.cells #[.int .i64 (x 0), .int .i64 (x 1), .int .i64 (x 2), .int .i64 (x 3), .int .i64 (x 4), .int .i64 (x 5), .int .i64 (x 6), .int .i64 (x 7), .int .i64 (x 8), .int .i64 (x 9), .int .i64 (x 10), .int .i64 (x 11), .int .i64 (x 12), .int .i64 (R.clock : Int), vf, .int .i64 (R.tickets : Int), (.slice pn R.nodes.length cn), (.slice pb us.length cb), vw] 33)).heap[w.heap.size]? = some (.cells #[.int .i64 (x 0), .int .i64 (x 1), .int .i64 (x 2), .int .i64 (x 3), .int .i64 (x 4), .int .i64 (x 5), .int .i64 (x 6), .int .i64 (x 7), .int .i64 (x 8), .int .i64 (x 9), .int .i64 (x 10), .int .i64 (x 11), .int .i64 (x 12), .int .i64 (R.clock : Int), vf, .int .i64 (R.tickets : Int), (.slice pn R.nodes.length cn), (.slice pb us.length cb), vw] 33) := heap_alloc_new _ _
  have HG := Go.Lib.hid (hg.below hbA)
  have HBW := Go.Lib.hid hbA
  have HBA := Go.Lib.hid bA
  have hcl := hr.cl
  have hok0 := hg.ok
  have hsz := hg.ok.size_le
  have hm0 : S.m 0 ≤ 1073741823 := by rw [hr.clock]; exact hr.cl
  have hfl : fn.length ≤ 4096 := Nat.le_trans (nodup_len E.cf.nodes fn hr.shop.nnd hr.shop.nlt) hg.ok.n2
  have hRf := hr.free
  have hRt := hr.tickets
  have hRc := hr.clock
  have HRF := Go.Lib.hid hRf
  have HRT := Go.Lib.hid hRt
  have HRC := Go.Lib.hid hRc
  clear hs hf hno hbx hK hr hn hg hbA bA hRf hRt hRc
  go_enter Tryz.func22, Tryz.ntmps22
  go_upto_region 1 with (fail)
  generalize (w.alloc (.cells #[.int .i64 (x 0), .int .i64 (x 1), .int .i64 (x 2), .int .i64 (x 3), .int .i64 (x 4), .int .i64 (x 5), .int .i64 (x 6), .int .i64 (x 7), .int .i64 (x 8), .int .i64 (x 9), .int .i64 (x 10), .int .i64 (x 11), .int .i64 (x 12), .int .i64 (R.clock : Int), vf, .int .i64 (R.tickets : Int), (.slice pn R.nodes.length cn), (.slice pb us.length cb), vw] 33)) = W at *
  have hn0 : 0 < S.n := by rw [HSN.out]; omega
  have q13 : W.cell? ⟨w.heap.size, 13, none⟩ = some (.int .i64 (S.m 0 : Nat)) := by rw [HRC.out]; exact cell_of_row _ _ _ _ _ _ HBA.out
  have q14 : W.cell? ⟨w.heap.size, 14, none⟩ = some (vf) := by exact cell_of_row _ _ _ _ _ _ HBA.out
  have q15 : W.cell? ⟨w.heap.size, 15, none⟩ = some (.int .i64 (ft.length : Int)) := by rw [← HRT.out]; exact cell_of_row _ _ _ _ _ _ HBA.out
  have q16 : W.cell? ⟨w.heap.size, 16, none⟩ = some (.slice pn R.nodes.length cn) := by exact cell_of_row _ _ _ _ _ _ HBA.out
  have q17 : W.cell? ⟨w.heap.size, 17, none⟩ = some (.slice pb us.length cb) := by exact cell_of_row _ _ _ _ _ _ HBA.out
  replace HG := Go.Lib.hid (HG.out.below (Below.refl _ _).drew)
  replace HBW := Go.Lib.hid HBW.out.drew
  go_region_held3 (fun w' => w'.cell? ⟨w.heap.size, 14, none⟩ = some vf ∧ w'.cell? ⟨w.heap.size, 15, none⟩ = some (.int .i64 (ft.length : Int)) ∧ w'.cell? ⟨w.heap.size, 13, none⟩ = some (.int .i64 (S.m 0 : Nat)))
    (first | exact ⟨q14, q15, q13⟩)
    (first
      | (go_at_call 57; refine (core_Nodes HG.out).mono ?_; rintro e w1 ⟨rfl, hb⟩; have HG := Go.Lib.hid (HG.out.below hb); have q13 := below_cell hb q13; have q14 := below_cell hb q14; have q15 := below_cell hb q15; have q16 := below_cell hb q16; have q17 := below_cell hb q17; have HBW := Go.Lib.hid (HBW.out.trans (hb.mono HBW.out.size)))
      | (go_at_call 24; refine (core_Tickets HG.out).mono ?_; rintro e w1 ⟨rfl, hb⟩; have HG := Go.Lib.hid (HG.out.below hb); have q13 := below_cell hb q13; have q14 := below_cell hb q14; have q15 := below_cell hb q15; have q16 := below_cell hb q16; have q17 := below_cell hb q17; have HBW := Go.Lib.hid (HBW.out.trans (hb.mono HBW.out.size)))
      | (go_at_call 79; refine (core_clock HG.out hn0 (by omega)).mono ?_; rintro e w1 ⟨rfl, hb⟩; have HG := Go.Lib.hid (HG.out.below hb); have q13 := below_cell hb q13; have q14 := below_cell hb q14; have q15 := below_cell hb q15; have q16 := below_cell hb q16; have q17 := below_cell hb q17; have HBW := Go.Lib.hid (HBW.out.trans (hb.mono HBW.out.size)))
      | (go_at_call 58; have hx := HSEEN.out; refine (tickets_list HG.out HSN.out HR.out.shop).mono ?_; rintro e w1 ⟨v24, rfl, hown, hb⟩; obtain ⟨a24, c24, rfl⟩ := own_form hown; have HG := Go.Lib.hid (HG.out.below hb); have q13 := below_cell hb q13; have q14 := below_cell hb q14; have q15 := below_cell hb q15; have q16 := below_cell hb q16; have q17 := below_cell hb q17; have HBW := Go.Lib.hid (HBW.out.trans (hb.mono HBW.out.size)))
      | (go_at_call 58; refine (nodes_list HG.out HSN.out HR.out.shop).mono ?_; rintro e w1 ⟨v16, rfl, hown, hb⟩; have HON := Go.Lib.hid hown; have HG := Go.Lib.hid (HG.out.below hb); have q13 := below_cell hb q13; have q14 := below_cell hb q14; have q15 := below_cell hb q15; have q16 := below_cell hb q16; have q17 := below_cell hb q17; have HBW := Go.Lib.hid (HBW.out.trans (hb.mono HBW.out.size)))
      | (go_at_call 60; refine (same_free _ _ _ fn K HON.out (by rw [← HRF.out]; exact KRows.keep HF.out fun b hb => HBW.out.block b (HK.out b hb)) (by omega)).mono ?_; rintro e w1 hqt; obtain ⟨rfl, hb⟩ := hqt.below; have HSEEN : Hid True := Go.Lib.hid True.intro; have HG := Go.Lib.hid (HG.out.below hb); have q13 := below_cell hb q13; have q14 := below_cell hb q14; have q15 := below_cell hb q15; have q16 := below_cell hb q16; have q17 := below_cell hb q17; have HBW := Go.Lib.hid (HBW.out.trans (hb.mono HBW.out.size))))
  go_wp2_with fail
  refine (core_cells HG.out).mono ?_
  rintro e w2 ⟨rfl, hb⟩
  subst hb
  go_wp2_with fail
  refine (arena_all HG.out.ar).mono ?_
  rintro e w3 ⟨rfl, hall⟩
  have hb := hall.bl
  have hal : ∀ i, i < S.n → w3.cell? ⟨w2.heap.size, i, none⟩ = some (.int .u64 (S.m i : Nat)) := fun i hi => by have := hall.c0 i hi; rw [if_pos hi] at this; exact this
  have HG := Go.Lib.hid (HG.out.below hb)
  have q13 := below_cell hb q13
  have q14 := below_cell hb q14
  have q15 := below_cell hb q15
  have q16 := below_cell hb q16
  have q17 := below_cell hb q17
  have HBW := Go.Lib.hid (HBW.out.trans (hb.mono HBW.out.size))
  clear hall hb
  generalize w2.heap.size = gA at *
  have HALL := Go.Lib.hid hal
  clear hal
  go_wp2
  clear q13 q14 q15 q16
  have Q17 := Go.Lib.hid q17
  clear q17
  go_loopw [43] (fun i wr => ∃ k : Nat, i = .int .i64 (k : Int) ∧ k ≤ R.nodes.length ∧ Below w3.heap.size w3 wr) (fun i _ => R.nodes.length - (intOf i).toNat)
  case atStart => exact ⟨0, rfl, Nat.zero_le _, Below.refl _ _⟩
  case round =>
    obtain ⟨k, rfl, hk, hbr⟩ := hrel
    by_cases hlt : k < R.nodes.length
    · have hkc : k < E.cf.nodes := by have := HR.out.nl; omega
      have hkb : k < 4096 := by have := hok0.n2; omega
      obtain ⟨gn, on, cn2, hvn, hnc⟩ := NodesAt.at HNO.out.at' hlt
      injection hvn with hv1 hv2 hv3
      subst hv1
      clear hv2 hv3
      have hok := HR.out.node k _ (List.getElem?_eq_getElem hlt)
      have hgd : R.nodes.getD k default = R.nodes[k] := by simp [hlt]
      rw [hgd] at hnc
      generalize R.nodes[k] = nd at *
      obtain ⟨T, hT⟩ : ∃ T, T = part (S.m (E.cf.nodesAt + 4 * k)) 2 30 := ⟨_, rfl⟩
      have hstA : stA E.cf S.m (k : Int) = S.m (E.cf.nodesAt + 4 * k) := by unfold stA; rw [if_pos (by omega)]; congr 2
      have HST : Hid (∀ W, Good E L S W → Calls Tryz.prog 56 #[.pointer (some ⟨E.k, 0, none⟩), .int .i64 (k : Int)] W fun e w' => e = .returned (.agg #[.int .i64 (nd.gen : Int), .int .i64 (T : Int), .int .i64 (nd.status : Int)]) ∧ Below W.heap.size W w') := Go.Lib.hid (fun W hW => by
        have h := core_state_any hW HSN.out (k : Int)
        rw [hstA, hok.gen, hok.status, ← hT] at h
        exact h)
      have hTe : nd.status = 1 → T = nd.time := fun q => by rw [hT]; exact hok.time q
      have hue : nd.status = 1 → S.m (E.cf.nodesAt + 4 * k + 2) = nd.user := hok.user
      have HUE := Go.Lib.hid hue
      clear hok hT hgd hstA hue
      have n0 : wr.cell? ⟨gn, on + k * 7, none⟩ = some (.int .i64 (nd.gen : Int)) := below_cell ((HBW.out.trans (hbr.mono HBW.out.size))) (hnc 0 (by decide))
      have n1 : wr.cell? ⟨gn, on + k * 7 + 1, none⟩ = some (.int .i64 (nd.time : Int)) := below_cell ((HBW.out.trans (hbr.mono HBW.out.size))) (hnc 1 (by decide))
      have n2 : wr.cell? ⟨gn, on + k * 7 + 2, none⟩ = some (.int .i64 (nd.status : Int)) := below_cell ((HBW.out.trans (hbr.mono HBW.out.size))) (hnc 2 (by decide))
      have n3 : wr.cell? ⟨gn, on + k * 7 + 3, none⟩ = some (.int .i64 (nd.user : Int)) := below_cell ((HBW.out.trans (hbr.mono HBW.out.size))) (hnc 3 (by decide))
      have n4 : wr.cell? ⟨gn, on + k * 7 + 4, none⟩ = some (.int .i64 (nd.hgen : Int)) := below_cell ((HBW.out.trans (hbr.mono HBW.out.size))) (hnc 4 (by decide))
      have n5 : wr.cell? ⟨gn, on + k * 7 + 5, none⟩ = some (.int .i64 (nd.hver : Int)) := below_cell ((HBW.out.trans (hbr.mono HBW.out.size))) (hnc 5 (by decide))
      have n6 : wr.cell? ⟨gn, on + k * 7 + 6, none⟩ = some (.int .i64 (nd.hshard : Int)) := below_cell ((HBW.out.trans (hbr.mono HBW.out.size))) (hnc 6 (by decide))
      have hi1 : (0 : Int) ≤ (k : Int) := by omega
      have hi2 : (k : Int) < (R.nodes.length : Int) := by omega
      have hg1 := HG.out.below hbr
      have hbA : Below wr.heap.size wr (wr.alloc (.cells #[.int .i64 (nd.gen : Int), .int .i64 (nd.time : Int), .int .i64 (nd.status : Int), .int .i64 (nd.user : Int), .int .i64 (nd.hgen : Int), .int .i64 (nd.hver : Int), .int .i64 (nd.hshard : Int)] 122)) := (Below.refl _ _).alloc (Nat.le_refl _) _
      have bN : (wr.alloc (.cells #[.int .i64 (nd.gen : Int), .int .i64 (nd.time : Int), .int .i64 (nd.status : Int), .int .i64 (nd.user : Int), .int .i64 (nd.hgen : Int), .int .i64 (nd.hver : Int), .int .i64 (nd.hshard : Int)] 122)).heap[wr.heap.size]? = some (.cells #[.int .i64 (nd.gen : Int), .int .i64 (nd.time : Int), .int .i64 (nd.status : Int), .int .i64 (nd.user : Int), .int .i64 (nd.hgen : Int), .int .i64 (nd.hver : Int), .int .i64 (nd.hshard : Int)] 122) := heap_alloc_new _ _
      have HG1 := Go.Lib.hid (hg1.below hbA)
      have HB1 := Go.Lib.hid (hbr.trans (hbA.mono hbr.size))
      have HBN := Go.Lib.hid bN
      have hlw := hbr.size
      clear hg1 hbA bN hnc hbr
      go_wp2_with fail
      clear n0 n1 n2 n3 n4 n5 n6
      generalize (wr.alloc (.cells #[.int .i64 (nd.gen : Int), .int .i64 (nd.time : Int), .int .i64 (nd.status : Int), .int .i64 (nd.user : Int), .int .i64 (nd.hgen : Int), .int .i64 (nd.hver : Int), .int .i64 (nd.hshard : Int)] 122)) = W1 at *
      generalize wr.heap.size = nB at *
      refine (HST.out _ HG1.out).mono ?_
      rintro e wx ⟨rfl, hb⟩
      have hbB : Below wx.heap.size wx (wx.alloc (.cells #[.int .i64 (nd.gen : Int), .int .i64 (T : Int), .int .i64 (nd.status : Int)] 105)) := (Below.refl _ _).alloc (Nat.le_refl _) _
      have bS : (wx.alloc (.cells #[.int .i64 (nd.gen : Int), .int .i64 (T : Int), .int .i64 (nd.status : Int)] 105)).heap[wx.heap.size]? = some (.cells #[.int .i64 (nd.gen : Int), .int .i64 (T : Int), .int .i64 (nd.status : Int)] 105) := heap_alloc_new _ _
      have hbb := hb.trans (hbB.mono hb.size)
      replace HG1 := Go.Lib.hid (HG1.out.below hbb)
      have bN := Below.row hbb HBN.out
      replace HB1 := Go.Lib.hid (HB1.out.trans (hbb.mono HB1.out.size))
      clear hb hbB hbb HBN
      go_upto_region 8 with (fail)
      generalize (wx.alloc (.cells #[.int .i64 (nd.gen : Int), .int .i64 (T : Int), .int .i64 (nd.status : Int)] 105)) = W2 at *
      generalize wx.heap.size = sB at *
      have a0 : W2.cell? ⟨nB, 0, none⟩ = some (.int .i64 (nd.gen : Int)) := cell_of_row _ _ _ _ _ _ bN
      have a1 : W2.cell? ⟨nB, 1, none⟩ = some (.int .i64 (nd.time : Int)) := cell_of_row _ _ _ _ _ _ bN
      have a2 : W2.cell? ⟨nB, 2, none⟩ = some (.int .i64 (nd.status : Int)) := cell_of_row _ _ _ _ _ _ bN
      have a3 : W2.cell? ⟨nB, 3, none⟩ = some (.int .i64 (nd.user : Int)) := cell_of_row _ _ _ _ _ _ bN
      have s0 : W2.cell? ⟨sB, 0, none⟩ = some (.int .i64 (nd.gen : Int)) := cell_of_row _ _ _ _ _ _ bS
      have s1 : W2.cell? ⟨sB, 1, none⟩ = some (.int .i64 (T : Int)) := cell_of_row _ _ _ _ _ _ bS
      have s2 : W2.cell? ⟨sB, 2, none⟩ = some (.int .i64 (nd.status : Int)) := cell_of_row _ _ _ _ _ _ bS
      by_cases h1 : nd.status = 1
      · have hT := hTe h1
        subst hT
        have hq1 : ((nd.status : Int) == 1) = true := by rw [h1]; rfl
        have hq2 : decide ((nd.status : Int) = 1) = true := by rw [h1]; rfl
        have hu := HUE.out h1
        have hus : E.cf.user (k : Int) = ((E.cf.nodesAt + 4 * k + 2 : Nat) : Int) := node_at E.cf k hkc 2
        have huc := below_cell HB1.out (HALL.out (E.cf.nodesAt + 4 * k + 2) (by have := HSN.out; have : E.cf.ticketsAt = E.cf.nodesAt + 4 * E.cf.nodes := rfl; have := tlk_size E.cf; omega))
        have h64 := HG1.out.ar.m64 (E.cf.nodesAt + 4 * k + 2)
        rw [hu] at huc h64
        have hil : E.cf.nodesAt + 4 * k + 2 < S.n := by have := HSN.out; have : E.cf.ticketsAt = E.cf.nodesAt + 4 * E.cf.nodes := rfl; have := tlk_size E.cf; omega
        have HUS := Go.Lib.hid (arm_user HG1.out (k : Int))
        rw [hus] at HUS
        have HPL := Go.Lib.hid (arm_plan HG1.out)
        clear hus hu h1 HUE hTe
        generalize E.cf.nodesAt + 4 * k + 2 = iu at *
        have hiu1 : (0 : Int) ≤ (iu : Int) := by omega
        have hiu2 : (iu : Int) < (S.n : Int) := by omega
        have hwu : IntKind.u64.wrap (nd.user : Int) = (nd.user : Int) := IntWalk.u64_in _ (by omega)
        have a0' : ∀ d os, (Sort.grow (redrawn W2 d) os).cell? ⟨nB, 0, none⟩ = some (.int .i64 (nd.gen : Int)) := fun d os => cell_regrown a0 d os
        have a1' : ∀ d os, (Sort.grow (redrawn W2 d) os).cell? ⟨nB, 1, none⟩ = some (.int .i64 (nd.time : Int)) := fun d os => cell_regrown a1 d os
        have a2' : ∀ d os, (Sort.grow (redrawn W2 d) os).cell? ⟨nB, 2, none⟩ = some (.int .i64 (nd.status : Int)) := fun d os => cell_regrown a2 d os
        have a3' : ∀ d os, (Sort.grow (redrawn W2 d) os).cell? ⟨nB, 3, none⟩ = some (.int .i64 (nd.user : Int)) := fun d os => cell_regrown a3 d os
        have s0' : ∀ d os, (Sort.grow (redrawn W2 d) os).cell? ⟨sB, 0, none⟩ = some (.int .i64 (nd.gen : Int)) := fun d os => cell_regrown s0 d os
        have s1' : ∀ d os, (Sort.grow (redrawn W2 d) os).cell? ⟨sB, 1, none⟩ = some (.int .i64 (nd.time : Int)) := fun d os => cell_regrown s1 d os
        have s2' : ∀ d os, (Sort.grow (redrawn W2 d) os).cell? ⟨sB, 2, none⟩ = some (.int .i64 (nd.status : Int)) := fun d os => cell_regrown s2 d os
        have huc' : ∀ d os, (Sort.grow (redrawn W2 d) os).cell? ⟨gA, iu, none⟩ = some (.int .u64 (nd.user : Int)) := fun d os => cell_regrown huc d os
        refine wp_region_quiet_below (by kernel_rfl) (by kernel_rfl) ?_
        repeat (go_big_quiet_step (first
          | (go_at_call 47; rename_i p; exact Calls.regrown_of (HPL.out _ (below_regrown W2 p.d p.os)))
          | (go_at_call 96; rename_i p; exact Calls.regrown_of (HUS.out _ (below_regrown W2 p.d p.os)))))
        refine wpQuiet_nil ?_
        intro w5 hw'
        obtain ⟨p, rfl⟩ := hw'
        have hb5 := below_regrown W2 p.d p.os
        clear a0' a1' a2' a3' s0' s1' s2' huc' a0 a1 a2 a3 s0 s1 s2 huc
        generalize Sort.grow (redrawn W2 p.d) p.os = w5 at *
        go_wp2
        have e1 : (k : Int) + 1 = ((k + 1 : Nat) : Int) := by omega
        exact ⟨⟨k + 1, by rw [e1], hlt, HB1.out.trans (hb5.mono HB1.out.size)⟩, by show R.nodes.length - ((k : Int) + 1).toNat < R.nodes.length - (k : Int).toNat; omega⟩
      · have hq1 : ((nd.status : Int) == 1) = false := by simp; omega
        have hq2 : decide ((nd.status : Int) = 1) = false := by simp; omega
        clear h1 HUE hTe
        have a0' : ∀ d os, (Sort.grow (redrawn W2 d) os).cell? ⟨nB, 0, none⟩ = some (.int .i64 (nd.gen : Int)) := fun d os => cell_regrown a0 d os
        have a1' : ∀ d os, (Sort.grow (redrawn W2 d) os).cell? ⟨nB, 1, none⟩ = some (.int .i64 (nd.time : Int)) := fun d os => cell_regrown a1 d os
        have a2' : ∀ d os, (Sort.grow (redrawn W2 d) os).cell? ⟨nB, 2, none⟩ = some (.int .i64 (nd.status : Int)) := fun d os => cell_regrown a2 d os
        have a3' : ∀ d os, (Sort.grow (redrawn W2 d) os).cell? ⟨nB, 3, none⟩ = some (.int .i64 (nd.user : Int)) := fun d os => cell_regrown a3 d os
        have s0' : ∀ d os, (Sort.grow (redrawn W2 d) os).cell? ⟨sB, 0, none⟩ = some (.int .i64 (nd.gen : Int)) := fun d os => cell_regrown s0 d os
        have s1' : ∀ d os, (Sort.grow (redrawn W2 d) os).cell? ⟨sB, 1, none⟩ = some (.int .i64 (T : Int)) := fun d os => cell_regrown s1 d os
        have s2' : ∀ d os, (Sort.grow (redrawn W2 d) os).cell? ⟨sB, 2, none⟩ = some (.int .i64 (nd.status : Int)) := fun d os => cell_regrown s2 d os
        refine wp_region_quiet_below (by kernel_rfl) (by kernel_rfl) ?_
        repeat (go_big_quiet_step (first
          | fail))
        refine wpQuiet_nil ?_
        intro w5 hw'
        obtain ⟨p, rfl⟩ := hw'
        have hb5 := below_regrown W2 p.d p.os
        clear a0' a1' a2' a3' s0' s1' s2' a0 a1 a2 a3 s0 s1 s2
        generalize Sort.grow (redrawn W2 p.d) p.os = w5 at *
        go_wp2
        have e1 : (k : Int) + 1 = ((k + 1 : Nat) : Int) := by omega
        exact ⟨⟨k + 1, by rw [e1], hlt, HB1.out.trans (hb5.mono HB1.out.size)⟩, by show R.nodes.length - ((k : Int) + 1).toNat < R.nodes.length - (k : Int).toNat; omega⟩
    · obtain rfl : k = R.nodes.length := by omega
      have q17 := below_cell hbr Q17.out
      have HG2 := Go.Lib.hid (HG.out.below hbr)
      have HB2 := Go.Lib.hid (HBW.out.trans (hbr.mono HBW.out.size))
      have HAL2 := Go.Lib.hid (fun i hi => below_cell hbr (HALL.out i hi))
      clear hbr HG HBW HALL Q17
      go_wp2
      clear q17
      generalize wr = wr0 at *
      go_loopw [92] (fun i wr => ∃ k : Nat, i = .int .i64 (k : Int) ∧ k ≤ us.length ∧ Below wr0.heap.size wr0 wr) (fun i _ => us.length - (intOf i).toNat)
      case atStart => exact ⟨0, rfl, Nat.zero_le _, Below.refl _ _⟩
      case round =>
        obtain ⟨k, rfl, hk, hbr⟩ := hrel
        by_cases hlt : k < us.length
        · have hul : us.length ≤ 64 := by have := HX.out.len; have := HR.out.bl; have := hok0.w2; omega
          have hkw : k < E.cf.workers := by have := HX.out.len; have := HR.out.bl; omega
          have hkb : k < R.boxes.length := by have := HX.out.len; omega
          obtain ⟨gb, ob, hpb, hcu⟩ := KRows.cell1 HX.out.outer hlt
          have hbt := HX.out.box k us[k] R.boxes[k] (List.getElem?_eq_getElem hlt) (List.getElem?_eq_getElem hkb)
          have hbe : R.boxes[k] = (bx k).map (tickOf E.cf S.m) := by have := HR.out.box k hkw; rw [List.getD_eq_getElem?_getD, List.getElem?_eq_getElem hkb] at this; exact this
          rw [hbe] at hbt
          generalize us[k] = ub at *
          obtain ⟨pt, ct, rfl, _⟩ := hbt.form
          rw [List.length_map, List.length_map] at hbt hcu
          have HBT := Go.Lib.hid hbt
          clear hbt hbe
          subst hpb
          have c0 := below_cell (HB2.out.trans (hbr.mono HB2.out.size)) hcu
          clear hcu
          have hi1 : (0 : Int) ≤ (k : Int) := by omega
          have hi2 : (k : Int) < (us.length : Int) := by omega
          have hxl : (bx k).length ≤ 8192 := Nat.le_trans (nodup_len E.cf.tickets (bx k) (HR.out.shop.bnd k hkw) (HR.out.shop.blt k hkw)) hok0.t2
          have HG3 := Go.Lib.hid (HG2.out.below hbr)
          have HB3 := Go.Lib.hid hbr
          clear hbr
          go_wp2_with fail
          clear c0
          refine (core_box HG3.out (k : Int)).mono ?_
          rintro e w4 ⟨rfl, hb⟩
          replace HG3 := Go.Lib.hid (HG3.out.below hb)
          replace HB3 := Go.Lib.hid (HB3.out.trans (hb.mono HB3.out.size))
          clear hb
          go_wp2_with fail
          refine (box_list HG3.out HSN.out HR.out.shop hkw).mono ?_
          rintro e w5 ⟨v11, rfl, hown, hb⟩
          replace HG3 := Go.Lib.hid (HG3.out.below hb)
          replace HB3 := Go.Lib.hid (HB3.out.trans (hb.mono HB3.out.size))
          clear hb
          obtain ⟨al, cl, rfl⟩ := own_form hown
          have HOW := Go.Lib.hid hown
          clear hown
          go_wp2
          go_loopw [108] (fun i wr => ∃ j : Nat, i = .int .i64 (j : Int) ∧ j ≤ (bx k).length ∧ Below w5.heap.size w5 wr) (fun i _ => (bx k).length - (intOf i).toNat)
          case atStart => exact ⟨0, rfl, Nat.zero_le _, Below.refl _ _⟩
          case round =>
            obtain ⟨j, rfl, hj, hbj⟩ := hrel
            by_cases hjl : j < (bx k).length
            · obtain ⟨gl, cl2, hal2, hlc⟩ := own_cell HOW.out (by omega)
              injection hal2 with hv1 hv2 hv3
              subst hv1 hv3
              have hle : ∀ (i : Nat) (hi : i < (bx k).length), w5.cell? ⟨gl, i, none⟩ = some (.int .i64 ((bx k)[i] : Int)) := fun i hi => by have := hlc i hi; unfold ints at this; rw [List.getD_eq_getElem?_getD] at this; simpa [hi] using this
              have hce := below_cell hbj (hle j hjl)
              clear hlc hle
              obtain ⟨gt, ot, hpt, htc⟩ := KTicks.cells HBT.out (i := j) (by rw [List.length_map]; exact hjl)
              subst hpt
              have htl : (bx k)[j] < E.cf.tickets := HR.out.shop.blt k hkw _ (List.getElem_mem hjl)
              have hte : ((bx k).map (tickOf E.cf S.m))[j]'(by rw [List.length_map]; exact hjl) = tickOf E.cf S.m (bx k)[j] := List.getElem_map ..
              rw [hte] at htc
              generalize (bx k)[j] = tt at *
              obtain ⟨tk, htk⟩ : ∃ tk, tk = tickOf E.cf S.m tt := ⟨_, rfl⟩
              rw [← htk] at htc
              have hts := tlk_size E.cf
              have hsn := HSN.out
              have hk1 : part (S.m (E.cf.ticketsAt + 3 * tt)) 32 32 = tk.gen := by rw [htk]; rfl
              have hk2 : part (S.m (E.cf.ticketsAt + 3 * tt)) 16 16 = tk.ver := by rw [htk]; rfl
              have hk3 : part (S.m (E.cf.ticketsAt + 3 * tt)) 0 16 = tk.node := by rw [htk]; rfl
              have hk4 : S.m (E.cf.ticketsAt + 3 * tt + 1) = tk.due := by rw [htk]; rfl
              have h64a := HG3.out.ar.m64 (E.cf.ticketsAt + 3 * tt)
              have h64b := HG3.out.ar.m64 (E.cf.ticketsAt + 3 * tt + 1)
              have bAll := HB3.out.trans (hbj.mono HB3.out.size)
              have hka := below_cell bAll (HAL2.out (E.cf.ticketsAt + 3 * tt) (by omega))
              have hkb2 := below_cell bAll (HAL2.out (E.cf.ticketsAt + 3 * tt + 1) (by omega))
              have HKY := Go.Lib.hid (arm_key2 ((HG3.out.below hbj)) (tt : Int))
              have HTM := Go.Lib.hid (arm_time2 ((HG3.out.below hbj)) (tt : Int))
              have HPL := Go.Lib.hid (arm_plan (HG3.out.below hbj))
              rw [show E.cf.key (tt : Int) = ((E.cf.ticketsAt + 3 * tt : Nat) : Int) from ticket_at E.cf tt htl 0] at HKY
              rw [show E.cf.time (tt : Int) = ((E.cf.ticketsAt + 3 * tt + 1 : Nat) : Int) from ticket_at E.cf tt htl 1] at HTM
              have HKO : Hid (∀ W, Calls Tryz.prog 49 #[.int .u64 (S.m (E.cf.ticketsAt + 3 * tt) : Nat)] W fun e w' => e = .returned (.agg #[.int .i64 (tk.gen : Int), .int .i64 (tk.ver : Int), .int .i64 (tk.node : Int)]) ∧ Below W.heap.size W w') := Go.Lib.hid (fun W => by have h := of_KeyOf (S.m (E.cf.ticketsAt + 3 * tt)) W h64a; rw [hk1, hk2, hk3] at h; exact h)
              rw [hk4] at hkb2 h64b
              generalize S.m (E.cf.ticketsAt + 3 * tt) = mk at *
              have hia : E.cf.ticketsAt + 3 * tt < S.n := by omega
              have hib : E.cf.ticketsAt + 3 * tt + 1 < S.n := by omega
              clear hk1 hk2 hk3 hk4 htk hte hts
              generalize E.cf.ticketsAt + 3 * tt + 1 = ib at *
              generalize E.cf.ticketsAt + 3 * tt = ia at *
              have hja1 : (0 : Int) ≤ (ia : Int) := by omega
              have hja2 : (ia : Int) < (S.n : Int) := by omega
              have hjb1 : (0 : Int) ≤ (ib : Int) := by omega
              have hjb2 : (ib : Int) < (S.n : Int) := by omega
              have hj1 : (0 : Int) ≤ (j : Int) := by omega
              have hj2 : (j : Int) < ((bx k).length : Int) := by omega
              have hwu : IntKind.u64.wrap (tk.due : Int) = (tk.due : Int) := IntWalk.u64_in _ (by omega)
              have t0 : wr.cell? ⟨gt, ot + j * 4, none⟩ = some (.int .i64 (tk.node : Int)) := below_cell (HB2.out.trans (bAll.mono HB2.out.size)) (htc 0 (by decide))
              have t1 : wr.cell? ⟨gt, ot + j * 4 + 1, none⟩ = some (.int .i64 (tk.gen : Int)) := below_cell (HB2.out.trans (bAll.mono HB2.out.size)) (htc 1 (by decide))
              have t2 : wr.cell? ⟨gt, ot + j * 4 + 2, none⟩ = some (.int .i64 (tk.ver : Int)) := below_cell (HB2.out.trans (bAll.mono HB2.out.size)) (htc 2 (by decide))
              have t3 : wr.cell? ⟨gt, ot + j * 4 + 3, none⟩ = some (.int .i64 (tk.due : Int)) := below_cell (HB2.out.trans (bAll.mono HB2.out.size)) (htc 3 (by decide))
              have hbA : Below wr.heap.size wr (wr.alloc (.cells #[.int .i64 (tk.node : Int), .int .i64 (tk.gen : Int), .int .i64 (tk.ver : Int), .int .i64 (tk.due : Int)] 140)) := (Below.refl _ _).alloc (Nat.le_refl _) _
              have bT : (wr.alloc (.cells #[.int .i64 (tk.node : Int), .int .i64 (tk.gen : Int), .int .i64 (tk.ver : Int), .int .i64 (tk.due : Int)] 140)).heap[wr.heap.size]? = some (.cells #[.int .i64 (tk.node : Int), .int .i64 (tk.gen : Int), .int .i64 (tk.ver : Int), .int .i64 (tk.due : Int)] 140) := heap_alloc_new _ _
              replace hce := below_cell hbA hce
              replace hka := below_cell hbA hka
              replace hkb2 := below_cell hbA hkb2
              replace HKY := Go.Lib.hid (fun W (hW : Below ((wr.alloc (.cells #[.int .i64 (tk.node : Int), .int .i64 (tk.gen : Int), .int .i64 (tk.ver : Int), .int .i64 (tk.due : Int)] 140))).heap.size ((wr.alloc (.cells #[.int .i64 (tk.node : Int), .int .i64 (tk.gen : Int), .int .i64 (tk.ver : Int), .int .i64 (tk.due : Int)] 140))) W) => HKY.out W (hbA.trans (hW.mono hbA.size)))
              replace HTM := Go.Lib.hid (fun W (hW : Below ((wr.alloc (.cells #[.int .i64 (tk.node : Int), .int .i64 (tk.gen : Int), .int .i64 (tk.ver : Int), .int .i64 (tk.due : Int)] 140))).heap.size ((wr.alloc (.cells #[.int .i64 (tk.node : Int), .int .i64 (tk.gen : Int), .int .i64 (tk.ver : Int), .int .i64 (tk.due : Int)] 140))) W) => HTM.out W (hbA.trans (hW.mono hbA.size)))
              replace HPL := Go.Lib.hid (fun W (hW : Below ((wr.alloc (.cells #[.int .i64 (tk.node : Int), .int .i64 (tk.gen : Int), .int .i64 (tk.ver : Int), .int .i64 (tk.due : Int)] 140))).heap.size ((wr.alloc (.cells #[.int .i64 (tk.node : Int), .int .i64 (tk.gen : Int), .int .i64 (tk.ver : Int), .int .i64 (tk.due : Int)] 140))) W) => HPL.out W (hbA.trans (hW.mono hbA.size)))
              have HB5 := Go.Lib.hid (hbj.trans (hbA.mono hbj.size))
              clear hbA bAll htc hbj
              go_upto_region 20 with (fail)
              clear t0 t1 t2 t3
              generalize (wr.alloc (.cells #[.int .i64 (tk.node : Int), .int .i64 (tk.gen : Int), .int .i64 (tk.ver : Int), .int .i64 (tk.due : Int)] 140)) = W7 at *
              generalize wr.heap.size = tB at *
              have b0 : W7.cell? ⟨tB, 0, none⟩ = some (.int .i64 (tk.node : Int)) := cell_of_row _ _ _ _ _ _ bT
              have b1 : W7.cell? ⟨tB, 1, none⟩ = some (.int .i64 (tk.gen : Int)) := cell_of_row _ _ _ _ _ _ bT
              have b2 : W7.cell? ⟨tB, 2, none⟩ = some (.int .i64 (tk.ver : Int)) := cell_of_row _ _ _ _ _ _ bT
              have b3 : W7.cell? ⟨tB, 3, none⟩ = some (.int .i64 (tk.due : Int)) := cell_of_row _ _ _ _ _ _ bT
              have b0' : ∀ d os, (Sort.grow (redrawn W7 d) os).cell? ⟨tB, 0, none⟩ = some (.int .i64 (tk.node : Int)) := fun d os => cell_regrown b0 d os
              have b1' : ∀ d os, (Sort.grow (redrawn W7 d) os).cell? ⟨tB, 1, none⟩ = some (.int .i64 (tk.gen : Int)) := fun d os => cell_regrown b1 d os
              have b2' : ∀ d os, (Sort.grow (redrawn W7 d) os).cell? ⟨tB, 2, none⟩ = some (.int .i64 (tk.ver : Int)) := fun d os => cell_regrown b2 d os
              have b3' : ∀ d os, (Sort.grow (redrawn W7 d) os).cell? ⟨tB, 3, none⟩ = some (.int .i64 (tk.due : Int)) := fun d os => cell_regrown b3 d os
              have hce' : ∀ d os, (Sort.grow (redrawn W7 d) os).cell? ⟨gl, j, none⟩ = some (.int .i64 (tt : Int)) := fun d os => cell_regrown hce d os
              have hka' : ∀ d os, (Sort.grow (redrawn W7 d) os).cell? ⟨gA, ia, none⟩ = some (.int .u64 (mk : Nat)) := fun d os => cell_regrown hka d os
              have hkb2' : ∀ d os, (Sort.grow (redrawn W7 d) os).cell? ⟨gA, ib, none⟩ = some (.int .u64 (tk.due : Nat)) := fun d os => cell_regrown hkb2 d os
              refine wp_region_quiet_below (by kernel_rfl) (by kernel_rfl) ?_
              repeat (go_big_quiet_step (first
                | (go_at_call 47; rename_i p; exact Calls.regrown_of (HPL.out _ (below_regrown W7 p.d p.os)))
                | (go_at_call 50; rename_i p; exact Calls.regrown_of (HKY.out _ (below_regrown W7 p.d p.os)))
                | (go_at_call 97; rename_i p; exact Calls.regrown_of (HTM.out _ (below_regrown W7 p.d p.os)))
                | (go_at_call 49; rename_i p; exact Calls.regrown_of ((fun W (_ : Below W7.heap.size W7 W) => HKO.out W) _ (below_regrown W7 p.d p.os)))))
              refine wpQuiet_nil ?_
              intro w8 hw'
              obtain ⟨p, rfl⟩ := hw'
              have hb8 := below_regrown W7 p.d p.os
              clear b0' b1' b2' b3' hce' hka' hkb2' b0 b1 b2 b3 hce hka hkb2
              generalize Sort.grow (redrawn W7 p.d) p.os = w8 at *
              go_wp2
              have e1 : (j : Int) + 1 = ((j + 1 : Nat) : Int) := by omega
              exact ⟨⟨j + 1, by rw [e1], hjl, HB5.out.trans (hb8.mono HB5.out.size)⟩, by show (bx k).length - ((j : Int) + 1).toNat < (bx k).length - (j : Int).toNat; omega⟩
            · obtain rfl : j = (bx k).length := by omega
              go_wp2
              have e1 : (k : Int) + 1 = ((k + 1 : Nat) : Int) := by omega
              exact ⟨⟨k + 1, by rw [e1], hlt, HB3.out.trans (hbj.mono HB3.out.size)⟩, by show us.length - ((k : Int) + 1).toNat < us.length - (k : Int).toNat; omega⟩
        · obtain rfl : k = us.length := by omega
          go_wp2
          go_ret
          exact ⟨rfl, HB2.out.trans (hbr.mono HB2.out.size)⟩
end Go.Proofs.YtgemjjpmoejgdaaGreat
/- StartAlone: its continuation; the steps of a task; writes to blocks of the law's own. -/
namespace Go.Proofs.YtgemjjpmoejgdaaGreat
open Go.RowKit
set_option maxRecDepth 100000
set_option linter.unusedVariables false

/-- What a caller does who waits for one answer alone. -/
def heR (n g e : Int) : Nat × Nat → Arg → St → St × Option (K (PR (Nat × Nat)))
  | ob, .he nn gg ee, S => if (nn = n ∧ gg = g ∧ ee = e) ∧ S.knows ob then (S.setR ob (.bool true), none) else (S.burst, none)
  | _, _, S => (S, none)
theorem heR_mono (n g e : Int) : ∀ (r : Nat × Nat) (a : Arg) (S : St), S.cnt ≤ (heR n g e r a S).1.cnt ∧ S.log.length ≤ (heR n g e r a S).1.log.length := by
  intro r a S
  cases a <;> try exact ⟨Nat.le_refl _, Nat.le_refl _⟩
  unfold heR
  dsimp only
  split
  · exact ⟨Nat.le_refl _, Nat.le_refl _⟩
  · exact ⟨by unfold St.burst; dsimp only; omega, Nat.le_refl _⟩
set_option maxHeartbeats 2000000 in
theorem law16_alone1 {cf : Cf} {E : G} {t m : Nat} {L : Lab} {w : World} {n g e : Int} {ob hb kb : Nat} (henv : Env L w [(hb, [.int .i64 n, .int .i64 g]), (kb, [.int .i64 e])]) :
    ConSim cf (prApp cf (heR n g e)) E t isHe m L w (.func (.func 19) #[] #[.pointer (some ⟨hb, 0, none⟩), .pointer (some ⟨kb, 0, none⟩), .pointer (some ⟨ob, 0, none⟩)]) (.ret (.user (ob, 0))) := by
  refine ⟨_, _, rfl, enters_of Tryz.func19 (by kernel_rfl) rfl, ?_⟩
  intro a L' w' S ha hx hg hbd
  cases a with
  | he nn gg ee =>
    rw [app_ret, prApp_user] at hbd ⊢
    have HE := henv.ext hx
    show Calls _ _ #[_, _, _, _, _] _ _
    by_cases hp : (nn = n ∧ gg = g ∧ ee = e) ∧ S.knows (ob, 0)
    · have e1 : heR n g e (ob, 0) (.he nn gg ee) S = (S.setR (ob, 0) (.bool true), none) := if_pos hp
      rw [e1]
      obtain ⟨⟨rfl, rfl, rfl⟩, hk⟩ := hp
      have hb1 : Below w'.heap.size w' (w'.alloc (.cells #[.int .i64 nn, .int .i64 gg] 46)) := (Below.refl _ _).alloc (Nat.le_refl _) _
      have hg1 := hg.below hb1
      have HE1 := HE.below hb1
      obtain ⟨⟨u1, c1⟩, f1, l1⟩ := hg1.knows hk
      have h0 : (w'.alloc (.cells #[.int .i64 nn, .int .i64 gg] 46)).cell? ⟨w'.heap.size, 0, none⟩ = some (.int .i64 nn) := by go_simp
      have h1 : (w'.alloc (.cells #[.int .i64 nn, .int .i64 gg] 46)).cell? ⟨w'.heap.size, 1, none⟩ = some (.int .i64 gg) := by go_simp
      have q0 : (w'.alloc (.cells #[.int .i64 nn, .int .i64 gg] 46)).cell? ⟨hb, 0, none⟩ = some (.int .i64 nn) := HE1.cell 0 0 rfl rfl
      have q1 : (w'.alloc (.cells #[.int .i64 nn, .int .i64 gg] 46)).cell? ⟨hb, 1, none⟩ = some (.int .i64 gg) := HE1.cell 0 1 rfl rfl
      have q2 : (w'.alloc (.cells #[.int .i64 nn, .int .i64 gg] 46)).cell? ⟨kb, 0, none⟩ = some (.int .i64 ee) := HE1.cell 1 0 rfl rfl
      dsimp only at c1 f1
      have HG := Go.Lib.hid (hg1.setR hk (.bool true))
      have HD := Go.Lib.hid ((below_did hb1 t L').trans ((hg1.shr_setR hk (.bool true)).did t))
      clear hg1 hg hbd hx e1 ha HE HE1 henv hb1 hk
      go_enter Tryz.func19, Tryz.ntmps19
      go_wp2
      go_ret
      refine ⟨_, L', rfl, HD.out, HG.out, ?_⟩
      cases m with
      | zero => trivial
      | succ m => rfl
    · rw [show heR n g e (ob, 0) (.he nn gg ee) S = (S.burst, none) from if_neg hp] at hbd
      exact (St.burst_no hbd).elim
  | _ => exact absurd ha (by simp [isHe])
set_option maxHeartbeats 400000 in
theorem task_steps {w : World} {L : Lab} {t tb : Nat} {v : Value} {s : Nat} (h : TaskAt w L t tb v s) :
    Calls Tryz.prog 21 #[.pointer (some ⟨tb, 0, none⟩)] w fun e w' => e = .returned (.int .i64 (s : Int)) ∧ w' = w := by
  have h1 := h.c1
  go_enter Tryz.func21, Tryz.ntmps21
  go_wp2
  go_ret
  exact ⟨rfl, rfl⟩
/-- A block that is nobody's is turned. -/
theorem Good.off {E : G} {L : Lab} {S : St} {w w' : World} {b : Nat} (h : Good E L S w) (hL : L b = 0) (hp : b ≠ E.p) (hs : w'.heap.size = w.heap.size) (hk : ∀ k, k ≠ b → w'.heap[k]? = w.heap[k]?) : Good E L S w' := by
  have cell : ∀ (a : Addr) (v : Value), a.block ≠ b → w.cell? a = some v → w'.cell? a = some v := fun a v hne e => (World.cell?_of_block (hk _ hne)).trans e
  have froz : ∀ (a : Addr), a.block ≠ b → w'.frozen? a = w.frozen? a := fun a hne => World.frozen?_of_block (hk _ hne)
  have nk : E.k ≠ b := by intro e; have := h.lk; rw [e] at this; omega
  have na : E.a ≠ b := by intro e; have := h.la; rw [e] at this; omega
  have nc : E.c ≠ b := by intro e; have := h.lc; rw [e] at this; omega
  refine ⟨h.ok, cell _ _ nk h.k0, cell _ _ nk h.k1, h.pl.mono (hk _ (Ne.symm hp)), ⟨cell _ _ na h.ar.a0, cell _ _ na h.ar.a1, (froz _ na).trans h.ar.af, fun i hi => cell _ _ nc (h.ar.c0 i hi), fun i hi => (froz _ nc).trans (h.ar.cf i hi), h.ar.ne, h.ar.n2, h.ar.m64, h.ar.cnt2⟩, h.lg.below (hk _ nk) (fun g hg _ => ⟨hk _ (by intro e; rw [e] at hg; omega), rfl⟩), ?_, h.lk, h.lp, h.la, h.lc, fun b' hb => h.new b' (by rw [hs] at hb; exact hb), fun s hsl => ⟨(h.sv s hsl).1.below (hk _ (by intro e; have := (h.sv s hsl).1.lb; rw [e] at this; omega)) rfl (fun g hg _ => ⟨hk _ (by intro e; rw [e] at hg; omega), rfl⟩), (h.sv s hsl).2⟩⟩
  intro b' o v hv
  obtain ⟨r1, r2, r3⟩ := h.rg b' o v hv
  have nb : b' ≠ b := by intro e; rw [e] at r3; omega
  exact ⟨cell _ _ nb r1, (froz _ nb).trans r2, r3⟩
theorem Good.setRow {E : G} {L : Lab} {S : St} {w : World} {b : Nat} (h : Good E L S w) (hL : L b = 0) (hp : b ≠ E.p) (cs : Array Value) : Good E L S (w.setRow b cs) :=
  h.off hL hp (size_setRow _ _ _) fun k hk => setRow_other _ _ _ _ hk
theorem Good.setLocal {E : G} {L : Lab} {S : St} {w : World} {b o : Nat} (h : Good E L S w) (hL : L b = 0) (hp : b ≠ E.p) (v : Value) : Good E L S (w.setCell ⟨b, o, none⟩ v) :=
  h.off hL hp (by simp [World.setCell]) fun k hk => Go.Deep.blk_setCell_other _ _ _ _ hk
/-- A shop is as small as the machine; its clock is not a Start's. -/
theorem startR_clock (slack : Nat) (R : ShopR) (ticks shard user : Int) : (startR slack R ticks shard user).1.clock = R.clock := by
  unfold startR
  split
  · rfl
  split
  · rfl
  split
  · rfl
  · split
    · rfl
    split
    · rfl
    · rfl
theorem ShopAt.keep {K : Nat → Prop} {w w' : World} {x : Nat → Int} {vw v : Value} {R : ShopR} (h : ShopAt K w x vw v R) (hb : ∀ b, K b → w'.heap[b]? = w.heap[b]?) : ShopAt K w' x vw v R := by
  obtain ⟨vf, vn, vb, us, e, h1, h2, h3⟩ := h.ex
  exact ⟨⟨vf, vn, vb, us, e, h1.keep hb, h2.keep hb, h3.keep hb⟩, h.one⟩
theorem ShopAt.mono {K K' : Nat → Prop} {w : World} {x : Nat → Int} {vw v : Value} {R : ShopR} (h : ShopAt K w x vw v R) (hk : ∀ b, K b → K' b) : ShopAt K' w x vw v R := by
  obtain ⟨vf, vn, vb, us, e, h1, h2, h3⟩ := h.ex
  exact ⟨⟨vf, vn, vb, us, e, h1.mono hk, h2.mono hk, h3.mono hk⟩, h.one⟩
theorem ShopAt.lt {K : Nat → Prop} {w : World} {x : Nat → Int} {vw v : Value} {R : ShopR} (h : ShopAt K w x vw v R) : ShopAt (fun b => K b ∧ b < w.heap.size) w x vw v R := by
  obtain ⟨vf, vn, vb, us, e, h1, h2, h3⟩ := h.ex
  refine ⟨⟨vf, vn, vb, us, e, KRows.lt h1 ?_, KRows.lt h2 ?_, ⟨h3.len, h3.outer.lt ?_, fun i u b hu hi => KRows.lt (h3.box i u b hu hi) ?_⟩⟩, h.one⟩
  · intro r hr; obtain ⟨n, _, rfl⟩ := List.mem_map.1 hr; simp
  · intro r hr; obtain ⟨n, _, rfl⟩ := List.mem_map.1 hr; simp [NodeR.cells]
  · intro r hr; obtain ⟨n, _, rfl⟩ := List.mem_map.1 hr; simp
  · intro r hr; obtain ⟨n, _, rfl⟩ := List.mem_map.1 hr; simp [TickR.cells]
/-- A Start alone: so many steps; the caller is told what it waits for. -/
theorem start_done {c : Cf} {S : St} {fn ft : List Nat} {bx : Nat → List Nat} {R : ShopR} {wk ticks shard user : Int} {ob : Nat × Nat} (hok : c.Ok) (hn : S.n = c.size) (hr : RelR c S.m R fn ft bx) (hu : user < 9223372036854775808) (hk : S.knows ob) (ht : c.tickets ≤ 30) (hc : S.cnt ≤ 1000000) (hl : S.log.length ≤ 1000) :
    ∃ m T fn' ft' bx', 1 ≤ m ∧ m ≤ 8 * c.tickets + 17 ∧ RunsF c (prApp c (heR (startR c.slack R ticks shard user).2.1 (startR c.slack R ticks shard user).2.2.1 (startR c.slack R ticks shard user).2.2.2)) (startK c wk ticks shard user (.user ob)) S m T ∧ RelR c T.m (startR c.slack R ticks shard user).1 fn' ft' bx' ∧ T.n = S.n ∧ T.cnt ≤ S.cnt + 260 ∧ T.log.length ≤ S.log.length + 1 ∧ T.reads ob (.bool true) := by
  obtain ⟨d, T, fn', ft', bx', h1, h2, hrel, hTn, hTr, _, hTc, ⟨e, hTl⟩, hrun⟩ := (start_rel (R0 := heR (startR c.slack R ticks shard user).2.1 (startR c.slack R ticks shard user).2.2.1 (startR c.slack R ticks shard user).2.2.2) (wk := wk) (k := .user ob) hok hn hr hu).runs (prApp_mono c _ (heR_mono _ _ _))
  have hk' : T.knows ob := by unfold St.knows; rw [hTr]; exact hk
  obtain ⟨m, hm1, hm2, hr2⟩ := hrun (T.setR ob (.bool true)) (if_pos ⟨⟨rfl, rfl, rfl⟩, hk'⟩) ⟨by show T.cnt ≤ _; omega, by show T.log.length ≤ _; rw [hTl, List.length_append]; show S.log.length + 1 ≤ _; omega⟩
  refine ⟨m, _, fn', ft', bx', hm1, by omega, hr2, hrel, hTn, by show T.cnt ≤ _; omega, by show T.log.length ≤ _; rw [hTl, List.length_append]; exact Nat.le_refl _, St.setR_reads hk'⟩
theorem Env.off {L : Lab} {w w' : World} {env : List (Nat × List Value)} {b : Nat} (h : Env L w env) (hne : ∀ p ∈ env, p.1 ≠ b) (hs : w.heap.size ≤ w'.heap.size) (hk : ∀ k, k ≠ b → w'.heap[k]? = w.heap[k]?) : Env L w' env := fun p hp =>
  ⟨(h p hp).1, Nat.lt_of_lt_of_le (h p hp).2.1 hs, fun i v hi => (World.cell?_of_block (hk p.1 (hne p hp))).trans ((h p hp).2.2 i v hi)⟩
theorem Env.row {L : Lab} {w : World} {env : List (Nat × List Value)} {b : Nat} {vs : List Value} {t : TypeId} (h : Env L w env) (hb : w.heap[b]? = some (.cells vs.toArray t)) (hl : L b = 0) : Env L w ((b, vs) :: env) := fun p hp => by
  rcases List.mem_cons.1 hp with rfl | hp
  · exact ⟨hl, heap_lt hb, fun i v hi => (cell_of_row _ _ _ _ _ _ hb).trans (by simpa using hi)⟩
  · exact h p hp
theorem ShopAt.tick {K : Nat → Prop} {w : World} {x : Nat → Int} {vw : Value} {R : ShopR} {cs : Array Value} (h : ShopAt K w x vw (.agg cs) R) : ShopAt K w x vw (.agg (cs.setIfInBounds 13 (.int .i64 ((R.clock : Int) + 1)))) { R with clock := R.clock + 1 } := by
  obtain ⟨⟨vf, vn, vb, us, e, h1, h2, h3⟩, ho⟩ := h
  injection e with e
  subst e
  refine ⟨⟨vf, vn, vb, us, ?_, h1, h2, h3⟩, ho⟩
  have : ((R.clock + 1 : Nat) : Int) = (R.clock : Int) + 1 := by omega
  show Value.agg _ = Value.agg #[_, _, _, _, _, _, _, _, _, _, _, _, _, .int .i64 ((R.clock + 1 : Nat) : Int), _, _, _, _, _]
  rw [this]
  rfl
/-- Blocks that hold the document's shop: nobody's, and not the law's own variable. -/
def KL (L : Lab) (mb ep n : Nat) (b : Nat) : Prop := L b = 0 ∧ b ≠ mb ∧ b ≠ ep ∧ b < n
theorem KL.lt {L : Lab} {mb ep n : Nat} : ∀ b, KL L mb ep n b → b < n := fun _ h => h.2.2.2
/-- Behind code that turns nothing of nobody's. -/
theorem KL.shr {L L' : Lab} {mb ep : Nat} {w w' : World} {x : Nat → Int} {vw v : Value} {R : ShopR} (h : ShopAt (KL L mb ep w.heap.size) w x vw v R) (hsz : w.heap.size ≤ w'.heap.size) (hb : ∀ b, b < w.heap.size → L b = 0 → w'.heap[b]? = w.heap[b]?) (hl : ∀ b, b < w.heap.size → L' b = L b) : ShopAt (KL L' mb ep w'.heap.size) w' x vw v R :=
  (h.keep fun b hk => hb b hk.2.2.2 hk.1).mono fun b hk => ⟨(hl b hk.2.2.2).trans hk.1, hk.2.1, hk.2.2.1, by have := hk.2.2.2; omega⟩
/-- Behind a write to the law's own variable. -/
theorem KL.own {L : Lab} {mb ep : Nat} {w w' : World} {x : Nat → Int} {vw v : Value} {R : ShopR} (h : ShopAt (KL L mb ep w.heap.size) w x vw v R) (hs : w'.heap.size = w.heap.size) (hb : ∀ b, b ≠ mb → w'.heap[b]? = w.heap[b]?) : ShopAt (KL L mb ep w'.heap.size) w' x vw v R := by
  rw [hs]
  exact h.keep fun b hk => hb b hk.2.1

end Go.Proofs.YtgemjjpmoejgdaaGreat
