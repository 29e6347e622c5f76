/- Script: the parts of an entry, runs of entries, an entry. -/
import Derived.Test.YtdemhabgaimnmaaGreatDoorJspe
namespace Go.Proofs.YtdemhabgaimnmaaGreatDoor
open Go.RowKit
set_option maxRecDepth 100000
set_option linter.unusedVariables false

def atN (i : Nat) : Nat := if i = 3 then 57 else if i = 4 then 58 else if i = 5 then 59 else if i = 6 then 60 else 61
/-- The parts of an entry in memory. -/
def PartsAt (base : Nat) (w : World) (v : Value) (ps : List (Nat × Nat)) : Prop := ∃ p c, v = .slice p ps.length c ∧ ∀ (j i k : Nat), ps[j]? = some (i, k) → ∃ g, base ≤ g ∧ p = some ⟨g, 0, none⟩ ∧ w.cell? ⟨g, j * 2, none⟩ = some (.func (.func (atN i)) #[] #[]) ∧ w.cell? ⟨g, j * 2 + 1, none⟩ = some (.int .i64 (k : Nat))
theorem PartsAt.below {base : Nat} {w w' : World} {v : Value} {ps : List (Nat × Nat)} (h : PartsAt base w v ps) (hb : Below w.heap.size w w') : PartsAt base w' v ps := by
  obtain ⟨p, c, rfl, h1⟩ := h
  refine ⟨p, c, rfl, fun j i k hj => ?_⟩
  obtain ⟨g, e0, e, h2, h3⟩ := h1 j i k hj
  exact ⟨g, e0, e, below_cell hb h2, below_cell hb h3⟩
theorem PartsAt.set {base : Nat} {w : World} {v u : Value} {ps : List (Nat × Nat)} {a : Addr} (h : PartsAt base w v ps) (ha : a.block < base) : PartsAt base (w.setCell a u) v ps := by
  obtain ⟨p, c, rfl, h1⟩ := h
  refine ⟨p, c, rfl, fun j i k hj => ?_⟩
  obtain ⟨g, e0, e, h2, h3⟩ := h1 j i k hj
  exact ⟨g, e0, e, (World.cell?_setCell_other _ _ _ _ (by intro q; subst q; simp at ha; omega)).trans h2, (World.cell?_setCell_other _ _ _ _ (by intro q; subst q; simp at ha; omega)).trans h3⟩

theorem parts_at3 (b : Nat) (w : World) : Calls Tryz.prog 57 #[.pointer (some ⟨b, 0, none⟩)] w fun e w' => e = .returned (.pointer (some ⟨b, 3, none⟩)) ∧ w' = w := by
  go_enter Tryz.func57, Tryz.ntmps57
  go_wp2
  go_ret
  exact ⟨rfl, rfl⟩
theorem parts_at4 (b : Nat) (w : World) : Calls Tryz.prog 58 #[.pointer (some ⟨b, 0, none⟩)] w fun e w' => e = .returned (.pointer (some ⟨b, 4, none⟩)) ∧ w' = w := by
  go_enter Tryz.func58, Tryz.ntmps58
  go_wp2
  go_ret
  exact ⟨rfl, rfl⟩
theorem parts_at5 (b : Nat) (w : World) : Calls Tryz.prog 59 #[.pointer (some ⟨b, 0, none⟩)] w fun e w' => e = .returned (.pointer (some ⟨b, 5, none⟩)) ∧ w' = w := by
  go_enter Tryz.func59, Tryz.ntmps59
  go_wp2
  go_ret
  exact ⟨rfl, rfl⟩
theorem parts_at6 (b : Nat) (w : World) : Calls Tryz.prog 60 #[.pointer (some ⟨b, 0, none⟩)] w fun e w' => e = .returned (.pointer (some ⟨b, 6, none⟩)) ∧ w' = w := by
  go_enter Tryz.func60, Tryz.ntmps60
  go_wp2
  go_ret
  exact ⟨rfl, rfl⟩
theorem parts_at7 (b : Nat) (w : World) : Calls Tryz.prog 61 #[.pointer (some ⟨b, 0, none⟩)] w fun e w' => e = .returned (.pointer (some ⟨b, 7, none⟩)) ∧ w' = w := by
  go_enter Tryz.func61, Tryz.ntmps61
  go_wp2
  go_ret
  exact ⟨rfl, rfl⟩
theorem parts_at (i b : Nat) (h3 : 3 ≤ i) (h7 : i ≤ 7) (w : World) : Calls Tryz.prog (atN i) #[.pointer (some ⟨b, 0, none⟩)] w fun e w' => e = .returned (.pointer (some ⟨b, i, none⟩)) ∧ w' = w := by
  match i, h3, h7 with
  | 3, _, _ => exact parts_at3 b w
  | 4, _, _ => exact parts_at4 b w
  | 5, _, _ => exact parts_at5 b w
  | 6, _, _ => exact parts_at6 b w
  | 7, _, _ => exact parts_at7 b w
theorem parts_enter (i : Nat) (h3 : 3 ≤ i) (h7 : i ≤ 7) (args : Array Value) (w : World) : (callFunc (atN i) args).run Tryz.prog w = .ok (.enter (atN i) args) w := by
  match i, h3, h7 with
  | 3, _, _ => exact (show (callFunc 57 args).run Tryz.prog w = .ok (.enter 57 args) w by kernel_rfl)
  | 4, _, _ => exact (show (callFunc 58 args).run Tryz.prog w = .ok (.enter 58 args) w by kernel_rfl)
  | 5, _, _ => exact (show (callFunc 59 args).run Tryz.prog w = .ok (.enter 59 args) w by kernel_rfl)
  | 6, _, _ => exact (show (callFunc 60 args).run Tryz.prog w = .ok (.enter 60 args) w by kernel_rfl)
  | 7, _, _ => exact (show (callFunc 61 args).run Tryz.prog w = .ok (.enter 61 args) w by kernel_rfl)
  
set_option maxHeartbeats 1000000 in
theorem script_parts1 (w : World) : Calls Tryz.prog 46 #[.int .i64 1] w fun e w' => ∃ v, e = .returned v ∧ PartsAt w.heap.size w' v (shapeP 1) ∧ Below w.heap.size w w' := by
  go_enter Tryz.func46, Tryz.ntmps46
  go_wp2
  go_ret
  have hr := heap_alloc_new (((((w.alloc (.cells #[.func (.func 57) #[] #[], .int .i64 2] 105)).alloc (.cells #[.func (.func 58) #[] #[], .int .i64 4] 105)).alloc (.cells #[.func (.func 59) #[] #[], .int .i64 4] 105)).alloc (.cells #[.func (.func 60) #[] #[], .int .i64 1] 105)).alloc (.cells #[.func (.func 61) #[] #[], .int .i64 4] 105)) (.cells #[.func (.func 59) #[] #[], .int .i64 4, .func (.func 60) #[] #[], .int .i64 1, .func (.func 61) #[] #[], .int .i64 4] 105)
  rw [show (((((w.alloc (.cells #[.func (.func 57) #[] #[], .int .i64 2] 105)).alloc (.cells #[.func (.func 58) #[] #[], .int .i64 4] 105)).alloc (.cells #[.func (.func 59) #[] #[], .int .i64 4] 105)).alloc (.cells #[.func (.func 60) #[] #[], .int .i64 1] 105)).alloc (.cells #[.func (.func 61) #[] #[], .int .i64 4] 105)).heap.size = w.heap.size + 1 + 1 + 1 + 1 + 1 by simp] at hr
  refine ⟨_, rfl, ⟨_, _, rfl, fun j i k hj => ⟨_, ?_, rfl, ?_⟩⟩, ?_⟩
  · omega
  · match j, hj with
    | 0, hj => cases hj; exact ⟨cell_of_row _ _ _ _ _ _ hr, cell_of_row _ _ _ _ _ _ hr⟩
    | 1, hj => cases hj; exact ⟨cell_of_row _ _ _ _ _ _ hr, cell_of_row _ _ _ _ _ _ hr⟩
    | 2, hj => cases hj; exact ⟨cell_of_row _ _ _ _ _ _ hr, cell_of_row _ _ _ _ _ _ hr⟩
  · exact (((((((Below.refl _ _).alloc (by exact Nat.le_refl _) _).alloc (by first | (simp; done) | (simp; omega)) _).alloc (by first | (simp; done) | (simp; omega)) _).alloc (by first | (simp; done) | (simp; omega)) _).alloc (by first | (simp; done) | (simp; omega)) _).alloc (by first | (simp; done) | (simp; omega)) _)
set_option maxHeartbeats 1000000 in
theorem script_parts2 (w : World) : Calls Tryz.prog 46 #[.int .i64 2] w fun e w' => ∃ v, e = .returned v ∧ PartsAt w.heap.size w' v (shapeP 2) ∧ Below w.heap.size w w' := by
  go_enter Tryz.func46, Tryz.ntmps46
  go_wp2
  go_ret
  have hr := heap_alloc_new (((((w.alloc (.cells #[.func (.func 57) #[] #[], .int .i64 2] 105)).alloc (.cells #[.func (.func 58) #[] #[], .int .i64 4] 105)).alloc (.cells #[.func (.func 59) #[] #[], .int .i64 4] 105)).alloc (.cells #[.func (.func 60) #[] #[], .int .i64 1] 105)).alloc (.cells #[.func (.func 61) #[] #[], .int .i64 4] 105)) (.cells #[.func (.func 57) #[] #[], .int .i64 2, .func (.func 58) #[] #[], .int .i64 4] 105)
  rw [show (((((w.alloc (.cells #[.func (.func 57) #[] #[], .int .i64 2] 105)).alloc (.cells #[.func (.func 58) #[] #[], .int .i64 4] 105)).alloc (.cells #[.func (.func 59) #[] #[], .int .i64 4] 105)).alloc (.cells #[.func (.func 60) #[] #[], .int .i64 1] 105)).alloc (.cells #[.func (.func 61) #[] #[], .int .i64 4] 105)).heap.size = w.heap.size + 1 + 1 + 1 + 1 + 1 by simp] at hr
  refine ⟨_, rfl, ⟨_, _, rfl, fun j i k hj => ⟨_, ?_, rfl, ?_⟩⟩, ?_⟩
  · omega
  · match j, hj with
    | 0, hj => cases hj; exact ⟨cell_of_row _ _ _ _ _ _ hr, cell_of_row _ _ _ _ _ _ hr⟩
    | 1, hj => cases hj; exact ⟨cell_of_row _ _ _ _ _ _ hr, cell_of_row _ _ _ _ _ _ hr⟩
  · exact (((((((Below.refl _ _).alloc (by exact Nat.le_refl _) _).alloc (by first | (simp; done) | (simp; omega)) _).alloc (by first | (simp; done) | (simp; omega)) _).alloc (by first | (simp; done) | (simp; omega)) _).alloc (by first | (simp; done) | (simp; omega)) _).alloc (by first | (simp; done) | (simp; omega)) _)
set_option maxHeartbeats 1000000 in
theorem script_parts3 (w : World) : Calls Tryz.prog 46 #[.int .i64 3] w fun e w' => ∃ v, e = .returned v ∧ PartsAt w.heap.size w' v (shapeP 3) ∧ Below w.heap.size w w' := by
  go_enter Tryz.func46, Tryz.ntmps46
  go_wp2
  go_ret
  have hr := heap_alloc_new (((((w.alloc (.cells #[.func (.func 57) #[] #[], .int .i64 2] 105)).alloc (.cells #[.func (.func 58) #[] #[], .int .i64 4] 105)).alloc (.cells #[.func (.func 59) #[] #[], .int .i64 4] 105)).alloc (.cells #[.func (.func 60) #[] #[], .int .i64 1] 105)).alloc (.cells #[.func (.func 61) #[] #[], .int .i64 4] 105)) (.cells #[.func (.func 57) #[] #[], .int .i64 2, .func (.func 58) #[] #[], .int .i64 4, .func (.func 59) #[] #[], .int .i64 4] 105)
  rw [show (((((w.alloc (.cells #[.func (.func 57) #[] #[], .int .i64 2] 105)).alloc (.cells #[.func (.func 58) #[] #[], .int .i64 4] 105)).alloc (.cells #[.func (.func 59) #[] #[], .int .i64 4] 105)).alloc (.cells #[.func (.func 60) #[] #[], .int .i64 1] 105)).alloc (.cells #[.func (.func 61) #[] #[], .int .i64 4] 105)).heap.size = w.heap.size + 1 + 1 + 1 + 1 + 1 by simp] at hr
  refine ⟨_, rfl, ⟨_, _, rfl, fun j i k hj => ⟨_, ?_, rfl, ?_⟩⟩, ?_⟩
  · omega
  · match j, hj with
    | 0, hj => cases hj; exact ⟨cell_of_row _ _ _ _ _ _ hr, cell_of_row _ _ _ _ _ _ hr⟩
    | 1, hj => cases hj; exact ⟨cell_of_row _ _ _ _ _ _ hr, cell_of_row _ _ _ _ _ _ hr⟩
    | 2, hj => cases hj; exact ⟨cell_of_row _ _ _ _ _ _ hr, cell_of_row _ _ _ _ _ _ hr⟩
  · exact (((((((Below.refl _ _).alloc (by exact Nat.le_refl _) _).alloc (by first | (simp; done) | (simp; omega)) _).alloc (by first | (simp; done) | (simp; omega)) _).alloc (by first | (simp; done) | (simp; omega)) _).alloc (by first | (simp; done) | (simp; omega)) _).alloc (by first | (simp; done) | (simp; omega)) _)
set_option maxHeartbeats 1000000 in
theorem script_parts4 (w : World) : Calls Tryz.prog 46 #[.int .i64 4] w fun e w' => ∃ v, e = .returned v ∧ PartsAt w.heap.size w' v (shapeP 4) ∧ Below w.heap.size w w' := by
  go_enter Tryz.func46, Tryz.ntmps46
  go_wp2
  go_ret
  have hr := heap_alloc_new (((((w.alloc (.cells #[.func (.func 57) #[] #[], .int .i64 2] 105)).alloc (.cells #[.func (.func 58) #[] #[], .int .i64 4] 105)).alloc (.cells #[.func (.func 59) #[] #[], .int .i64 4] 105)).alloc (.cells #[.func (.func 60) #[] #[], .int .i64 1] 105)).alloc (.cells #[.func (.func 61) #[] #[], .int .i64 4] 105)) (.cells #[.func (.func 57) #[] #[], .int .i64 2, .func (.func 58) #[] #[], .int .i64 4, .func (.func 60) #[] #[], .int .i64 1] 105)
  rw [show (((((w.alloc (.cells #[.func (.func 57) #[] #[], .int .i64 2] 105)).alloc (.cells #[.func (.func 58) #[] #[], .int .i64 4] 105)).alloc (.cells #[.func (.func 59) #[] #[], .int .i64 4] 105)).alloc (.cells #[.func (.func 60) #[] #[], .int .i64 1] 105)).alloc (.cells #[.func (.func 61) #[] #[], .int .i64 4] 105)).heap.size = w.heap.size + 1 + 1 + 1 + 1 + 1 by simp] at hr
  refine ⟨_, rfl, ⟨_, _, rfl, fun j i k hj => ⟨_, ?_, rfl, ?_⟩⟩, ?_⟩
  · omega
  · match j, hj with
    | 0, hj => cases hj; exact ⟨cell_of_row _ _ _ _ _ _ hr, cell_of_row _ _ _ _ _ _ hr⟩
    | 1, hj => cases hj; exact ⟨cell_of_row _ _ _ _ _ _ hr, cell_of_row _ _ _ _ _ _ hr⟩
    | 2, hj => cases hj; exact ⟨cell_of_row _ _ _ _ _ _ hr, cell_of_row _ _ _ _ _ _ hr⟩
  · exact (((((((Below.refl _ _).alloc (by exact Nat.le_refl _) _).alloc (by first | (simp; done) | (simp; omega)) _).alloc (by first | (simp; done) | (simp; omega)) _).alloc (by first | (simp; done) | (simp; omega)) _).alloc (by first | (simp; done) | (simp; omega)) _).alloc (by first | (simp; done) | (simp; omega)) _)
set_option maxHeartbeats 1000000 in
theorem script_parts0 (op : Nat) (h1 : op ≠ 1) (h2 : op ≠ 2) (h3 : op ≠ 3) (h4 : op ≠ 4) (w : World) : Calls Tryz.prog 46 #[.int .i64 op] w fun e w' => ∃ v, e = .returned v ∧ PartsAt w.heap.size w' v (shapeP op) ∧ Below w.heap.size w w' := by
  have hs : shapeP op = [] := by unfold shapeP; rw [if_neg h1, if_neg h2, if_neg h3, if_neg h4]
  rw [hs]
  have b1 : ((op : Int) == 1) = false := by simp; omega
  have b2 : ((op : Int) == 2) = false := by simp; omega
  have b3 : ((op : Int) == 3) = false := by simp; omega
  have b4 : ((op : Int) == 4) = false := by simp; omega
  clear h1 h2 h3 h4 hs
  generalize (op : Int) = z at *
  go_enter Tryz.func46, Tryz.ntmps46
  go_wp2
  go_ret
  exact ⟨_, rfl, ⟨_, _, rfl, fun j i k hj => by cases hj⟩, ((((((Below.refl _ _).alloc (Nat.le_refl _) _).alloc (by simp) _).alloc (by first | (simp; done) | (simp; omega)) _).alloc (by first | (simp; done) | (simp; omega)) _).alloc (by first | (simp; done) | (simp; omega)) _)⟩
theorem script_parts (op : Nat) (w : World) : Calls Tryz.prog 46 #[.int .i64 op] w fun e w' => ∃ v, e = .returned v ∧ PartsAt w.heap.size w' v (shapeP op) ∧ Below w.heap.size w w' := by
  by_cases h1 : op = 1
  · subst h1; exact script_parts1 w
  by_cases h2 : op = 2
  · subst h2; exact script_parts2 w
  by_cases h3 : op = 3
  · subst h3; exact script_parts3 w
  by_cases h4 : op = 4
  · subst h4; exact script_parts4 w
  exact script_parts0 op h1 h2 h3 h4 w
set_option maxHeartbeats 2000000 in
theorem script_repeat (e0 : Ent) (t : Nat) (ht : t ≤ 64) (w : World) : Calls Tryz.prog 45 #[.agg #[.int .i64 e0.kind, .int .i64 e0.worker, .int .i64 e0.op, .int .i64 e0.node, .int .i64 e0.gen, .int .i64 e0.time, .int .i64 e0.arg, .int .i64 e0.user], .int .i64 t] w fun e w' => ∃ v, e = .returned v ∧ w'.ownsRow (w.heap.size + 1) 56 8 v t (((List.replicate t e0).map Ent.cells).flatten) ∧ Below w.heap.size w w' := by
  have hinfo : (Tryz.prog.info? 56).map (fun i => (i.zero, i.size, i.bytes)) = some (some (.agg #[.int .i64 0, .int .i64 0, .int .i64 0, .int .i64 0, .int .i64 0, .int .i64 0, .int .i64 0, .int .i64 0]), 8, 64) := by kernel_rfl
  obtain ⟨i0, hi0, hz0, hz1, hz2⟩ := info_parts hinfo
  have hund : Tryz.prog.underlying 30 = some (.slice 56) := by kernel_rfl
  have HR : Hid (∀ j, ((List.replicate (j + 1) e0).map Ent.cells).flatten = ((List.replicate j e0).map Ent.cells).flatten ++ e0.cells) := Go.Lib.hid (fun j => by rw [List.replicate_succ', List.map_append, List.flatten_append]; simp)
  have HC : Hid (e0.cells = [.int .i64 e0.kind, .int .i64 e0.worker, .int .i64 e0.op, .int .i64 e0.node, .int .i64 e0.gen, .int .i64 e0.time, .int .i64 e0.arg, .int .i64 e0.user]) := Go.Lib.hid rfl
  obtain ⟨a0, a1, a2, a3, a4, a5, a6, a7⟩ := e0
  dsimp only at HC ⊢
  generalize hE : (Ent.mk a0 a1 a2 a3 a4 a5 a6 a7) = E0 at *
  clear hE
  have hb0 : Below w.heap.size w (w.alloc (.cells #[.int .i64 a0, .int .i64 a1, .int .i64 a2, .int .i64 a3, .int .i64 a4, .int .i64 a5, .int .i64 a6, .int .i64 a7] 56)) := (Below.refl _ _).alloc (Nat.le_refl _) _
  have HB0 := Go.Lib.hid hb0
  have hrow := heap_alloc_new w (.cells #[.int .i64 a0, .int .i64 a1, .int .i64 a2, .int .i64 a3, .int .i64 a4, .int .i64 a5, .int .i64 a6, .int .i64 a7] 56)
  go_enter Tryz.func45, Tryz.ntmps45
  go_wp2
  have HSZ : Hid (w.heap.size + 1 = (w.alloc (.cells #[.int .i64 a0, .int .i64 a1, .int .i64 a2, .int .i64 a3, .int .i64 a4, .int .i64 a5, .int .i64 a6, .int .i64 a7] 56)).heap.size) := Go.Lib.hid (by simp)
  have HRO := Go.Lib.hid hrow
  clear hrow hb0
  generalize (w.alloc (.cells #[.int .i64 a0, .int .i64 a1, .int .i64 a2, .int .i64 a3, .int .i64 a4, .int .i64 a5, .int .i64 a6, .int .i64 a7] 56)) = W0 at *
  go_loopw [5, 7] (fun u5 u7 wr => ∃ (j : Nat), u7 = .int .i64 j ∧ j ≤ t ∧ wr.ownsRow (w.heap.size + 1) 56 8 u5 j (((List.replicate j E0).map Ent.cells).flatten) ∧ OntoT (w.heap.size + 1) 56 W0 wr) (fun _ i _ => t - (intOf i).toNat)
  case atStart => exact ⟨0, rfl, Nat.zero_le _, World.ownsRow_nil _ _ _ _, OntoT.refl _ _ _⟩
  case round =>
    obtain ⟨j, rfl, hj, hown, hto⟩ := hrel
    obtain ⟨a, c, rfl⟩ := own_form hown
    have HOW := Go.Lib.hid hown
    have HTO := Go.Lib.hid hto
    have r0 := (hto.below.block w.heap.size (Nat.lt_succ_self _)).trans HRO.out
    have hsz := hto.size
    rw [← HSZ.out] at hsz
    have HTA : Hid (OntoT (w.heap.size + 1) 56 W0 (wr.alloc (.cells #[.int .i64 a0, .int .i64 a1, .int .i64 a2, .int .i64 a3, .int .i64 a4, .int .i64 a5, .int .i64 a6, .int .i64 a7] 56))) := Go.Lib.hid (HTO.out.alloc hsz _)
    have c0 : wr.cell? ⟨w.heap.size, 0, none⟩ = some (.int .i64 a0) := cell_of_row _ _ _ _ _ _ r0
    have c1 : wr.cell? ⟨w.heap.size, 1, none⟩ = some (.int .i64 a1) := cell_of_row _ _ _ _ _ _ r0
    have c2 : wr.cell? ⟨w.heap.size, 2, none⟩ = some (.int .i64 a2) := cell_of_row _ _ _ _ _ _ r0
    have c3 : wr.cell? ⟨w.heap.size, 3, none⟩ = some (.int .i64 a3) := cell_of_row _ _ _ _ _ _ r0
    have c4 : wr.cell? ⟨w.heap.size, 4, none⟩ = some (.int .i64 a4) := cell_of_row _ _ _ _ _ _ r0
    have c5 : wr.cell? ⟨w.heap.size, 5, none⟩ = some (.int .i64 a5) := cell_of_row _ _ _ _ _ _ r0
    have c6 : wr.cell? ⟨w.heap.size, 6, none⟩ = some (.int .i64 a6) := cell_of_row _ _ _ _ _ _ r0
    have c7 : wr.cell? ⟨w.heap.size, 7, none⟩ = some (.int .i64 a7) := cell_of_row _ _ _ _ _ _ r0
    clear hown hto r0
    by_cases hlt : j < t
    · go_wp2_with (first
        | (at_builtin; refine wpList_append_own _ rfl _ _ 30 rfl (w.heap.size + 1) 56 i0 _ 8 64 hund hi0 hz0 hz1 hz2 rfl (by decide) _ j (((List.replicate j E0).map Ent.cells).flatten) rfl (HOW.out.alloc _) ⟨wr.heap.size, 0, none⟩ 1 1 [.int .i64 a0, .int .i64 a1, .int .i64 a2, .int .i64 a3, .int .i64 a4, .int .i64 a5, .int .i64 a6, .int .i64 a7] rfl rfl (World.news_of_block (cs := #[.int .i64 a0, .int .i64 a1, .int .i64 a2, .int .i64 a3, .int .i64 a4, .int .i64 a5, .int .i64 a6, .int .i64 a7]) (t := 56) (fr := (0, 0)) (heap_alloc_new _ _)) (by simp [Value.oneCell']) (by unfold maxLen; omega) (by omega) (by rw [World.size_alloc]; omega) ?_; intro v1 w1 hown1 hgrow1 hnil1; have HT1 := Go.Lib.hid (HTA.out.grown (HOW.out.alloc _) hgrow1 (by rw [World.size_alloc]; omega) (Nat.le_refl _)); have HO1 := Go.Lib.hid hown1; clear hown1 hgrow1 hnil1)
        | fail)
      go_roundw
      case rel => exact ⟨j + 1, by go_num, by omega, by have := HO1.out; rw [HR.out, HC.out]; exact this, HT1.out⟩
      case measure => simp [intOf]; omega
    · have hjt : j = t := by omega
      subst hjt
      go_wp2
      go_ret
      exact ⟨_, rfl, HOW.out, HB0.out.trans (HTO.out.below.mono (Nat.le_succ _))⟩
end Go.Proofs.YtdemhabgaimnmaaGreatDoor
