/- The core's things: its stacks, a shard's box and wheel. -/
import Derived.Test.YtgemjjpmoejgdaaGreatJoinf
import Derived.Laws.EntriesVeiled
namespace Go.Proofs.YtgemjjpmoejgdaaGreat
open Go.RowKit
set_option maxRecDepth 100000
set_option linter.unusedVariables false

def linkVal (f : FuncId) (E : G) : Value := .func (.func f) #[.pointer (some ⟨E.p, 0, none⟩)] #[]
def nodesVal (E : G) : Value := .agg #[.pointer (some ⟨E.a, 0, none⟩), .int .i64 1, linkVal 155 E]
set_option maxHeartbeats 1000000 in
theorem core_Nodes {E : G} {L : Lab} {S : St} {w : World} (hg : Good E L S w) :
    Calls Tryz.prog 57 #[.pointer (some ⟨E.k, 0, none⟩)] w fun e w' => e = .returned (nodesVal E) ∧ Below w.heap.size w w' := by
  have k0 := hg.k0
  have k1 := hg.k1
  have lk := cell_lt k0
  clear hg
  go_enter Tryz.func57, Tryz.ntmps57
  go_wp2
  have hb : Below w.heap.size w (w.alloc (.cells #[.pointer none, .int .i64 0, .nilFunc] 60)) := (Below.refl _ _).alloc (Nat.le_refl _) _
  have c0 : (w.alloc (.cells #[.pointer none, .int .i64 0, .nilFunc] 60)).cell? ⟨w.heap.size, 0, none⟩ = some (.pointer none) := by go_simp
  have c1 : (w.alloc (.cells #[.pointer none, .int .i64 0, .nilFunc] 60)).cell? ⟨w.heap.size, 1, none⟩ = some (.int .i64 0) := by go_simp
  have c2 : (w.alloc (.cells #[.pointer none, .int .i64 0, .nilFunc] 60)).cell? ⟨w.heap.size, 2, none⟩ = some .nilFunc := by go_simp
  have f0 : (w.alloc (.cells #[.pointer none, .int .i64 0, .nilFunc] 60)).frozen? ⟨w.heap.size, 0, none⟩ = false := by go_simp
  have f1 : (w.alloc (.cells #[.pointer none, .int .i64 0, .nilFunc] 60)).frozen? ⟨w.heap.size, 1, none⟩ = false := by go_simp
  have f2 : (w.alloc (.cells #[.pointer none, .int .i64 0, .nilFunc] 60)).frozen? ⟨w.heap.size, 2, none⟩ = false := by go_simp
  replace k0 := below_cell hb k0
  replace k1 := below_cell hb k1
  generalize (w.alloc (.cells #[.pointer none, .int .i64 0, .nilFunc] 60)) = W at *
  go_still_tail 15, (by kernel_rfl)
  still_call (plan_Nodes _ _)
  repeat still_step
  refine wpStill_nil ?_
  change wpList _ _ _ _ _ (World.drew _)
  go_wp2
  have hb9 : Below w.heap.size w (World.drew (((W.setCell ⟨w.heap.size, 0, none⟩ (.pointer (some ⟨E.a, 0, none⟩))).setCell ⟨w.heap.size, 1, none⟩ (.int .i64 1)).setCell ⟨w.heap.size, 2, none⟩ (.func (.func 155) #[.pointer (some ⟨E.p, 0, none⟩)] #[]))) := (((hb.setCell (Nat.le_refl _) _).setCell (Nat.le_refl _) _).setCell (Nat.le_refl _) _).drew
  have d0 : (World.drew (((W.setCell ⟨w.heap.size, 0, none⟩ (.pointer (some ⟨E.a, 0, none⟩))).setCell ⟨w.heap.size, 1, none⟩ (.int .i64 1)).setCell ⟨w.heap.size, 2, none⟩ (.func (.func 155) #[.pointer (some ⟨E.p, 0, none⟩)] #[]))).cell? ⟨w.heap.size, 0, none⟩ = some (.pointer (some ⟨E.a, 0, none⟩)) := by go_simp
  have d1 : (World.drew (((W.setCell ⟨w.heap.size, 0, none⟩ (.pointer (some ⟨E.a, 0, none⟩))).setCell ⟨w.heap.size, 1, none⟩ (.int .i64 1)).setCell ⟨w.heap.size, 2, none⟩ (.func (.func 155) #[.pointer (some ⟨E.p, 0, none⟩)] #[]))).cell? ⟨w.heap.size, 1, none⟩ = some (.int .i64 1) := by go_simp
  have d2 : (World.drew (((W.setCell ⟨w.heap.size, 0, none⟩ (.pointer (some ⟨E.a, 0, none⟩))).setCell ⟨w.heap.size, 1, none⟩ (.int .i64 1)).setCell ⟨w.heap.size, 2, none⟩ (.func (.func 155) #[.pointer (some ⟨E.p, 0, none⟩)] #[]))).cell? ⟨w.heap.size, 2, none⟩ = some (.func (.func 155) #[.pointer (some ⟨E.p, 0, none⟩)] #[]) := by go_simp
  generalize (World.drew (((W.setCell ⟨w.heap.size, 0, none⟩ (.pointer (some ⟨E.a, 0, none⟩))).setCell ⟨w.heap.size, 1, none⟩ (.int .i64 1)).setCell ⟨w.heap.size, 2, none⟩ (.func (.func 155) #[.pointer (some ⟨E.p, 0, none⟩)] #[]))) = W9 at *
  exact bodyPost_ret (v := nodesVal E) (by simp [results, Tryz.results57, go_sem, nodesVal, linkVal, d0, d1, d2]) rfl ⟨rfl, hb9⟩
def ticketsVal (E : G) : Value := .agg #[.pointer (some ⟨E.a, 0, none⟩), .int .i64 2, linkVal 100 E]
set_option maxHeartbeats 1000000 in
theorem core_Tickets {E : G} {L : Lab} {S : St} {w : World} (hg : Good E L S w) :
    Calls Tryz.prog 24 #[.pointer (some ⟨E.k, 0, none⟩)] w fun e w' => e = .returned (ticketsVal E) ∧ Below w.heap.size w w' := by
  have k0 := hg.k0
  have k1 := hg.k1
  have lk := cell_lt k0
  clear hg
  go_enter Tryz.func24, Tryz.ntmps24
  go_wp2
  have hb : Below w.heap.size w (w.alloc (.cells #[.pointer none, .int .i64 0, .nilFunc] 60)) := (Below.refl _ _).alloc (Nat.le_refl _) _
  have c0 : (w.alloc (.cells #[.pointer none, .int .i64 0, .nilFunc] 60)).cell? ⟨w.heap.size, 0, none⟩ = some (.pointer none) := by go_simp
  have c1 : (w.alloc (.cells #[.pointer none, .int .i64 0, .nilFunc] 60)).cell? ⟨w.heap.size, 1, none⟩ = some (.int .i64 0) := by go_simp
  have c2 : (w.alloc (.cells #[.pointer none, .int .i64 0, .nilFunc] 60)).cell? ⟨w.heap.size, 2, none⟩ = some .nilFunc := by go_simp
  have f0 : (w.alloc (.cells #[.pointer none, .int .i64 0, .nilFunc] 60)).frozen? ⟨w.heap.size, 0, none⟩ = false := by go_simp
  have f1 : (w.alloc (.cells #[.pointer none, .int .i64 0, .nilFunc] 60)).frozen? ⟨w.heap.size, 1, none⟩ = false := by go_simp
  have f2 : (w.alloc (.cells #[.pointer none, .int .i64 0, .nilFunc] 60)).frozen? ⟨w.heap.size, 2, none⟩ = false := by go_simp
  replace k0 := below_cell hb k0
  replace k1 := below_cell hb k1
  generalize (w.alloc (.cells #[.pointer none, .int .i64 0, .nilFunc] 60)) = W at *
  go_still_tail 15, (by kernel_rfl)
  still_call (plan_Tickets _ _)
  repeat still_step
  refine wpStill_nil ?_
  change wpList _ _ _ _ _ (World.drew _)
  go_wp2
  have hb9 : Below w.heap.size w (World.drew (((W.setCell ⟨w.heap.size, 0, none⟩ (.pointer (some ⟨E.a, 0, none⟩))).setCell ⟨w.heap.size, 1, none⟩ (.int .i64 2)).setCell ⟨w.heap.size, 2, none⟩ (.func (.func 100) #[.pointer (some ⟨E.p, 0, none⟩)] #[]))) := (((hb.setCell (Nat.le_refl _) _).setCell (Nat.le_refl _) _).setCell (Nat.le_refl _) _).drew
  have d0 : (World.drew (((W.setCell ⟨w.heap.size, 0, none⟩ (.pointer (some ⟨E.a, 0, none⟩))).setCell ⟨w.heap.size, 1, none⟩ (.int .i64 2)).setCell ⟨w.heap.size, 2, none⟩ (.func (.func 100) #[.pointer (some ⟨E.p, 0, none⟩)] #[]))).cell? ⟨w.heap.size, 0, none⟩ = some (.pointer (some ⟨E.a, 0, none⟩)) := by go_simp
  have d1 : (World.drew (((W.setCell ⟨w.heap.size, 0, none⟩ (.pointer (some ⟨E.a, 0, none⟩))).setCell ⟨w.heap.size, 1, none⟩ (.int .i64 2)).setCell ⟨w.heap.size, 2, none⟩ (.func (.func 100) #[.pointer (some ⟨E.p, 0, none⟩)] #[]))).cell? ⟨w.heap.size, 1, none⟩ = some (.int .i64 2) := by go_simp
  have d2 : (World.drew (((W.setCell ⟨w.heap.size, 0, none⟩ (.pointer (some ⟨E.a, 0, none⟩))).setCell ⟨w.heap.size, 1, none⟩ (.int .i64 2)).setCell ⟨w.heap.size, 2, none⟩ (.func (.func 100) #[.pointer (some ⟨E.p, 0, none⟩)] #[]))).cell? ⟨w.heap.size, 2, none⟩ = some (.func (.func 100) #[.pointer (some ⟨E.p, 0, none⟩)] #[]) := by go_simp
  generalize (World.drew (((W.setCell ⟨w.heap.size, 0, none⟩ (.pointer (some ⟨E.a, 0, none⟩))).setCell ⟨w.heap.size, 1, none⟩ (.int .i64 2)).setCell ⟨w.heap.size, 2, none⟩ (.func (.func 100) #[.pointer (some ⟨E.p, 0, none⟩)] #[]))) = W9 at *
  exact bodyPost_ret (v := ticketsVal E) (by simp [results, Tryz.results24, go_sem, ticketsVal, linkVal, d0, d1, d2]) rfl ⟨rfl, hb9⟩
def boxVal (E : G) (s : Int) : Value := .agg #[.pointer (some ⟨E.a, 0, none⟩), .int .i64 (E.cf.inbox s), linkVal 100 E, .func (.func 113) #[.pointer (some ⟨E.k, 0, none⟩)] #[], .pointer (some ⟨E.a, 0, none⟩), .int .i64 2, linkVal 100 E]
set_option maxHeartbeats 4000000 in
theorem core_box {E : G} {L : Lab} {S : St} {w : World} (hg : Good E L S w) (s : Int) :
    Calls Tryz.prog 30 #[.pointer (some ⟨E.k, 0, none⟩), .int .i64 s] w fun e w' => e = .returned (boxVal E s) ∧ Below w.heap.size w w' := by
  have k0 := hg.k0
  have k1 := hg.k1
  have lk := cell_lt k0
  have hok := hg.ok
  have hb : Below w.heap.size w (w.alloc (.cells #[.pointer none, .int .i64 0, .nilFunc, .nilFunc, .pointer none, .int .i64 0, .nilFunc] 68)) := (Below.refl _ _).alloc (Nat.le_refl _) _
  have HG : Hid (∀ W', Below ((w.alloc (.cells #[.pointer none, .int .i64 0, .nilFunc, .nilFunc, .pointer none, .int .i64 0, .nilFunc] 68))).heap.size (w.alloc (.cells #[.pointer none, .int .i64 0, .nilFunc, .nilFunc, .pointer none, .int .i64 0, .nilFunc] 68)) W' → Good E L S W') := fun W' h => (hg.below hb).below h
  clear hg
  have HT : Hid (∀ W', Below ((w.alloc (.cells #[.pointer none, .int .i64 0, .nilFunc, .nilFunc, .pointer none, .int .i64 0, .nilFunc] 68))).heap.size (w.alloc (.cells #[.pointer none, .int .i64 0, .nilFunc, .nilFunc, .pointer none, .int .i64 0, .nilFunc] 68)) W' → Calls Tryz.prog 24 #[.pointer (some ⟨E.k, 0, none⟩)] W' fun e w' => e = .returned (.agg #[.pointer (some ⟨E.a, 0, none⟩), .int .i64 2, .func (.func 100) #[.pointer (some ⟨E.p, 0, none⟩)] #[]]) ∧ Below W'.heap.size W' w') := fun W' h => core_Tickets (HG.out W' h)
  go_enter Tryz.func30, Tryz.ntmps30
  go_wp2
  have c0 : (w.alloc (.cells #[.pointer none, .int .i64 0, .nilFunc, .nilFunc, .pointer none, .int .i64 0, .nilFunc] 68)).cell? ⟨w.heap.size, 0, none⟩ = some (.pointer none) := by go_simp
  have c1 : (w.alloc (.cells #[.pointer none, .int .i64 0, .nilFunc, .nilFunc, .pointer none, .int .i64 0, .nilFunc] 68)).cell? ⟨w.heap.size, 1, none⟩ = some (.int .i64 0) := by go_simp
  have c2 : (w.alloc (.cells #[.pointer none, .int .i64 0, .nilFunc, .nilFunc, .pointer none, .int .i64 0, .nilFunc] 68)).cell? ⟨w.heap.size, 2, none⟩ = some (.nilFunc) := by go_simp
  have c3 : (w.alloc (.cells #[.pointer none, .int .i64 0, .nilFunc, .nilFunc, .pointer none, .int .i64 0, .nilFunc] 68)).cell? ⟨w.heap.size, 3, none⟩ = some (.nilFunc) := by go_simp
  have c4 : (w.alloc (.cells #[.pointer none, .int .i64 0, .nilFunc, .nilFunc, .pointer none, .int .i64 0, .nilFunc] 68)).cell? ⟨w.heap.size, 4, none⟩ = some (.pointer none) := by go_simp
  have c5 : (w.alloc (.cells #[.pointer none, .int .i64 0, .nilFunc, .nilFunc, .pointer none, .int .i64 0, .nilFunc] 68)).cell? ⟨w.heap.size, 5, none⟩ = some (.int .i64 0) := by go_simp
  have c6 : (w.alloc (.cells #[.pointer none, .int .i64 0, .nilFunc, .nilFunc, .pointer none, .int .i64 0, .nilFunc] 68)).cell? ⟨w.heap.size, 6, none⟩ = some (.nilFunc) := by go_simp
  have f0 : (w.alloc (.cells #[.pointer none, .int .i64 0, .nilFunc, .nilFunc, .pointer none, .int .i64 0, .nilFunc] 68)).frozen? ⟨w.heap.size, 0, none⟩ = false := by go_simp
  have f1 : (w.alloc (.cells #[.pointer none, .int .i64 0, .nilFunc, .nilFunc, .pointer none, .int .i64 0, .nilFunc] 68)).frozen? ⟨w.heap.size, 1, none⟩ = false := by go_simp
  have f2 : (w.alloc (.cells #[.pointer none, .int .i64 0, .nilFunc, .nilFunc, .pointer none, .int .i64 0, .nilFunc] 68)).frozen? ⟨w.heap.size, 2, none⟩ = false := by go_simp
  have f3 : (w.alloc (.cells #[.pointer none, .int .i64 0, .nilFunc, .nilFunc, .pointer none, .int .i64 0, .nilFunc] 68)).frozen? ⟨w.heap.size, 3, none⟩ = false := by go_simp
  have f4 : (w.alloc (.cells #[.pointer none, .int .i64 0, .nilFunc, .nilFunc, .pointer none, .int .i64 0, .nilFunc] 68)).frozen? ⟨w.heap.size, 4, none⟩ = false := by go_simp
  have f5 : (w.alloc (.cells #[.pointer none, .int .i64 0, .nilFunc, .nilFunc, .pointer none, .int .i64 0, .nilFunc] 68)).frozen? ⟨w.heap.size, 5, none⟩ = false := by go_simp
  have f6 : (w.alloc (.cells #[.pointer none, .int .i64 0, .nilFunc, .nilFunc, .pointer none, .int .i64 0, .nilFunc] 68)).frozen? ⟨w.heap.size, 6, none⟩ = false := by go_simp
  replace k0 := below_cell hb k0
  replace k1 := below_cell hb k1
  have hne : w.heap.size ≠ E.k := by omega
  generalize (w.alloc (.cells #[.pointer none, .int .i64 0, .nilFunc, .nilFunc, .pointer none, .int .i64 0, .nilFunc] 68)) = W at *
  have k0' : ∀ d os, (Sort.grow (redrawn W d) os).cell? ⟨E.k, 0, none⟩ = some (.pointer (some ⟨E.p, 0, none⟩)) := fun d os => cell_regrown k0 d os
  have k1' : ∀ d os, (Sort.grow (redrawn W d) os).cell? ⟨E.k, 1, none⟩ = some (.pointer (some ⟨E.a, 0, none⟩)) := fun d os => cell_regrown k1 d os
  refine wp_region_below_tail 20 (by kernel_rfl) (by kernel_rfl) ?_
  simp only [List.take_succ_cons, List.take_zero, List.drop_succ_cons, List.drop_zero]
  repeat
    (refine wpQuiet_step (fun K hK => ?_)
     go_simp
     first
       | (refine hK _ ?_; clear hK K)
       | (apply Exists.intro
          refine ⟨fun p => ?_, hK _ ?_⟩
          first
            | exact Calls.regrown_of ((plan_Inbox hok E.p s _ (HG.out _ (below_regrown W p.d p.os)).pl).mono (fun _ _ h => h.below))
            | exact Calls.regrown_of (HT.out _ (below_regrown W p.d p.os))
          clear hK K))
  refine wpQuiet_nil ?_
  intro w' hw'
  obtain ⟨p, rfl⟩ := hw'
  have hbp := hb.trans ((below_regrown W p.d p.os).mono hb.size)
  have f0 := ((below_regrown W p.d p.os).frozen (cell_lt c0)).trans f0
  have f1 := ((below_regrown W p.d p.os).frozen (cell_lt c1)).trans f1
  have f2 := ((below_regrown W p.d p.os).frozen (cell_lt c2)).trans f2
  have f3 := ((below_regrown W p.d p.os).frozen (cell_lt c3)).trans f3
  have f4 := ((below_regrown W p.d p.os).frozen (cell_lt c4)).trans f4
  have f5 := ((below_regrown W p.d p.os).frozen (cell_lt c5)).trans f5
  have f6 := ((below_regrown W p.d p.os).frozen (cell_lt c6)).trans f6
  have c0 := below_cell (below_regrown W p.d p.os) c0
  have c1 := below_cell (below_regrown W p.d p.os) c1
  have c2 := below_cell (below_regrown W p.d p.os) c2
  have c3 := below_cell (below_regrown W p.d p.os) c3
  have c4 := below_cell (below_regrown W p.d p.os) c4
  have c5 := below_cell (below_regrown W p.d p.os) c5
  have c6 := below_cell (below_regrown W p.d p.os) c6
  clear k0' k1' k0 k1
  generalize Sort.grow (redrawn W p.d) p.os = W3 at *
  go_wp2
  have hb9 : Below w.heap.size w (((((((W3.setCell ⟨w.heap.size, 0, none⟩ (.pointer (some ⟨E.a, 0, none⟩))).setCell ⟨w.heap.size, 1, none⟩ (.int .i64 (E.cf.inbox s))).setCell ⟨w.heap.size, 2, none⟩ (.func (.func 100) #[.pointer (some ⟨E.p, 0, none⟩)] #[])).setCell ⟨w.heap.size, 3, none⟩ (.func (.func 113) #[.pointer (some ⟨E.k, 0, none⟩)] #[])).setCell ⟨w.heap.size, 4, none⟩ (.pointer (some ⟨E.a, 0, none⟩))).setCell ⟨w.heap.size, 5, none⟩ (.int .i64 2)).setCell ⟨w.heap.size, 6, none⟩ (.func (.func 100) #[.pointer (some ⟨E.p, 0, none⟩)] #[])) := (((((((hbp.setCell (Nat.le_refl _) _).setCell (Nat.le_refl _) _).setCell (Nat.le_refl _) _).setCell (Nat.le_refl _) _).setCell (Nat.le_refl _) _).setCell (Nat.le_refl _) _).setCell (Nat.le_refl _) _)
  have d0 : (((((((W3.setCell ⟨w.heap.size, 0, none⟩ (.pointer (some ⟨E.a, 0, none⟩))).setCell ⟨w.heap.size, 1, none⟩ (.int .i64 (E.cf.inbox s))).setCell ⟨w.heap.size, 2, none⟩ (.func (.func 100) #[.pointer (some ⟨E.p, 0, none⟩)] #[])).setCell ⟨w.heap.size, 3, none⟩ (.func (.func 113) #[.pointer (some ⟨E.k, 0, none⟩)] #[])).setCell ⟨w.heap.size, 4, none⟩ (.pointer (some ⟨E.a, 0, none⟩))).setCell ⟨w.heap.size, 5, none⟩ (.int .i64 2)).setCell ⟨w.heap.size, 6, none⟩ (.func (.func 100) #[.pointer (some ⟨E.p, 0, none⟩)] #[])).cell? ⟨w.heap.size, 0, none⟩ = some (.pointer (some ⟨E.a, 0, none⟩)) := by go_simp
  have d1 : (((((((W3.setCell ⟨w.heap.size, 0, none⟩ (.pointer (some ⟨E.a, 0, none⟩))).setCell ⟨w.heap.size, 1, none⟩ (.int .i64 (E.cf.inbox s))).setCell ⟨w.heap.size, 2, none⟩ (.func (.func 100) #[.pointer (some ⟨E.p, 0, none⟩)] #[])).setCell ⟨w.heap.size, 3, none⟩ (.func (.func 113) #[.pointer (some ⟨E.k, 0, none⟩)] #[])).setCell ⟨w.heap.size, 4, none⟩ (.pointer (some ⟨E.a, 0, none⟩))).setCell ⟨w.heap.size, 5, none⟩ (.int .i64 2)).setCell ⟨w.heap.size, 6, none⟩ (.func (.func 100) #[.pointer (some ⟨E.p, 0, none⟩)] #[])).cell? ⟨w.heap.size, 1, none⟩ = some (.int .i64 (E.cf.inbox s)) := by go_simp
  have d2 : (((((((W3.setCell ⟨w.heap.size, 0, none⟩ (.pointer (some ⟨E.a, 0, none⟩))).setCell ⟨w.heap.size, 1, none⟩ (.int .i64 (E.cf.inbox s))).setCell ⟨w.heap.size, 2, none⟩ (.func (.func 100) #[.pointer (some ⟨E.p, 0, none⟩)] #[])).setCell ⟨w.heap.size, 3, none⟩ (.func (.func 113) #[.pointer (some ⟨E.k, 0, none⟩)] #[])).setCell ⟨w.heap.size, 4, none⟩ (.pointer (some ⟨E.a, 0, none⟩))).setCell ⟨w.heap.size, 5, none⟩ (.int .i64 2)).setCell ⟨w.heap.size, 6, none⟩ (.func (.func 100) #[.pointer (some ⟨E.p, 0, none⟩)] #[])).cell? ⟨w.heap.size, 2, none⟩ = some (.func (.func 100) #[.pointer (some ⟨E.p, 0, none⟩)] #[]) := by go_simp
  have d3 : (((((((W3.setCell ⟨w.heap.size, 0, none⟩ (.pointer (some ⟨E.a, 0, none⟩))).setCell ⟨w.heap.size, 1, none⟩ (.int .i64 (E.cf.inbox s))).setCell ⟨w.heap.size, 2, none⟩ (.func (.func 100) #[.pointer (some ⟨E.p, 0, none⟩)] #[])).setCell ⟨w.heap.size, 3, none⟩ (.func (.func 113) #[.pointer (some ⟨E.k, 0, none⟩)] #[])).setCell ⟨w.heap.size, 4, none⟩ (.pointer (some ⟨E.a, 0, none⟩))).setCell ⟨w.heap.size, 5, none⟩ (.int .i64 2)).setCell ⟨w.heap.size, 6, none⟩ (.func (.func 100) #[.pointer (some ⟨E.p, 0, none⟩)] #[])).cell? ⟨w.heap.size, 3, none⟩ = some (.func (.func 113) #[.pointer (some ⟨E.k, 0, none⟩)] #[]) := by go_simp
  have d4 : (((((((W3.setCell ⟨w.heap.size, 0, none⟩ (.pointer (some ⟨E.a, 0, none⟩))).setCell ⟨w.heap.size, 1, none⟩ (.int .i64 (E.cf.inbox s))).setCell ⟨w.heap.size, 2, none⟩ (.func (.func 100) #[.pointer (some ⟨E.p, 0, none⟩)] #[])).setCell ⟨w.heap.size, 3, none⟩ (.func (.func 113) #[.pointer (some ⟨E.k, 0, none⟩)] #[])).setCell ⟨w.heap.size, 4, none⟩ (.pointer (some ⟨E.a, 0, none⟩))).setCell ⟨w.heap.size, 5, none⟩ (.int .i64 2)).setCell ⟨w.heap.size, 6, none⟩ (.func (.func 100) #[.pointer (some ⟨E.p, 0, none⟩)] #[])).cell? ⟨w.heap.size, 4, none⟩ = some (.pointer (some ⟨E.a, 0, none⟩)) := by go_simp
  have d5 : (((((((W3.setCell ⟨w.heap.size, 0, none⟩ (.pointer (some ⟨E.a, 0, none⟩))).setCell ⟨w.heap.size, 1, none⟩ (.int .i64 (E.cf.inbox s))).setCell ⟨w.heap.size, 2, none⟩ (.func (.func 100) #[.pointer (some ⟨E.p, 0, none⟩)] #[])).setCell ⟨w.heap.size, 3, none⟩ (.func (.func 113) #[.pointer (some ⟨E.k, 0, none⟩)] #[])).setCell ⟨w.heap.size, 4, none⟩ (.pointer (some ⟨E.a, 0, none⟩))).setCell ⟨w.heap.size, 5, none⟩ (.int .i64 2)).setCell ⟨w.heap.size, 6, none⟩ (.func (.func 100) #[.pointer (some ⟨E.p, 0, none⟩)] #[])).cell? ⟨w.heap.size, 5, none⟩ = some (.int .i64 2) := by go_simp
  have d6 : (((((((W3.setCell ⟨w.heap.size, 0, none⟩ (.pointer (some ⟨E.a, 0, none⟩))).setCell ⟨w.heap.size, 1, none⟩ (.int .i64 (E.cf.inbox s))).setCell ⟨w.heap.size, 2, none⟩ (.func (.func 100) #[.pointer (some ⟨E.p, 0, none⟩)] #[])).setCell ⟨w.heap.size, 3, none⟩ (.func (.func 113) #[.pointer (some ⟨E.k, 0, none⟩)] #[])).setCell ⟨w.heap.size, 4, none⟩ (.pointer (some ⟨E.a, 0, none⟩))).setCell ⟨w.heap.size, 5, none⟩ (.int .i64 2)).setCell ⟨w.heap.size, 6, none⟩ (.func (.func 100) #[.pointer (some ⟨E.p, 0, none⟩)] #[])).cell? ⟨w.heap.size, 6, none⟩ = some (.func (.func 100) #[.pointer (some ⟨E.p, 0, none⟩)] #[]) := by go_simp
  generalize (((((((W3.setCell ⟨w.heap.size, 0, none⟩ (.pointer (some ⟨E.a, 0, none⟩))).setCell ⟨w.heap.size, 1, none⟩ (.int .i64 (E.cf.inbox s))).setCell ⟨w.heap.size, 2, none⟩ (.func (.func 100) #[.pointer (some ⟨E.p, 0, none⟩)] #[])).setCell ⟨w.heap.size, 3, none⟩ (.func (.func 113) #[.pointer (some ⟨E.k, 0, none⟩)] #[])).setCell ⟨w.heap.size, 4, none⟩ (.pointer (some ⟨E.a, 0, none⟩))).setCell ⟨w.heap.size, 5, none⟩ (.int .i64 2)).setCell ⟨w.heap.size, 6, none⟩ (.func (.func 100) #[.pointer (some ⟨E.p, 0, none⟩)] #[])) = W9 at *
  exact bodyPost_ret (v := boxVal E s) (by simp [results, Tryz.results30, go_sem, boxVal, linkVal, d0, d1, d2, d3, d4, d5, d6]) rfl ⟨rfl, hb9⟩
end Go.Proofs.YtgemjjpmoejgdaaGreat
/- A stack's indices, first to last. -/
namespace Go.Proofs.YtgemjjpmoejgdaaGreat
open Go.RowKit
set_option maxRecDepth 100000
set_option linter.unusedVariables false

/-- From index i on the chain is xs. -/
def ChainOf (S : St) (lk : Nat → Nat) : Int → List Nat → Prop
  | i, [] => i < 0 ∧ -1 ≤ i
  | i, x :: xs => i = (x : Int) ∧ lk x < S.n ∧ S.m (lk x) < 4611686018427387904 ∧ ChainOf S lk ((S.m (lk x) : Int) - 1) xs

theorem own_form {w : World} {base : Nat} {e : TypeId} {size : Nat} {v : Value} {n : Nat} {xs : List Value} (h : w.ownsRow base e size v n xs) : ∃ a cap, v = .slice a n cap := by
  rcases h.2 with ⟨rfl, h0⟩ | ⟨g, cap, cur, rfl, _⟩
  · exact ⟨none, 0, by rw [h0]⟩
  · exact ⟨_, cap, rfl⟩
theorem own_ge {w : World} {base : Nat} {e : TypeId} {size : Nat} {v : Value} {n : Nat} {xs : List Value} (h : w.ownsRow base e size v n xs) {g : Nat} (hg : v.ownBlock = some g) : base ≤ g := by
  rcases h.2 with ⟨rfl, _⟩ | ⟨g', cap, cur, rfl, hb, _⟩
  · cases hg
  · have : g' = g := by simpa [Value.ownBlock] using hg
    omega

theorem own_mono {w : World} {base base' : Nat} {e : TypeId} {size : Nat} {v : Value} {n : Nat} {xs : List Value} (h : w.ownsRow base e size v n xs) (hb : base' ≤ base) : w.ownsRow base' e size v n xs :=
  ⟨h.1, h.2.elim .inl fun ⟨g, cap, cur, h1, h2, h3⟩ => .inr ⟨g, cap, cur, h1, Nat.le_trans hb h2, h3⟩⟩

set_option maxHeartbeats 4000000 in
theorem stack_list {E : G} {L : Lab} {S : St} {w : World} (hg : Good E L S w) (f : FuncId) (hf : ∀ (args : Array Value) (w : World), (callFunc f args).run Tryz.prog w = .ok (.enter f args) w) (head : Nat) (hh : head < S.n) (lk : Nat → Nat) (xs : List Nat)
    (hlk : ∀ x, x ∈ xs → ∀ w, PlanAt w E.p E.cf → Calls Tryz.prog f #[.pointer (some ⟨E.p, 0, none⟩), .int .i64 x] w (Qt (.int .i64 (lk x)) w))
    (hch : ChainOf S lk ((part (S.m head) 0 32 : Int) - 1) xs) (hlen : xs.length ≤ S.n) :
    Calls Tryz.prog 58 #[.agg #[.pointer (some ⟨E.a, 0, none⟩), .int .i64 head, .func (.func f) #[.pointer (some ⟨E.p, 0, none⟩)] #[]]] w fun e w' => ∃ v, e = .returned v ∧
      w'.ownsRow w.heap.size 3 1 v xs.length (xs.map fun (x : Nat) => Value.int .i64 (x : Int)) ∧ Below w.heap.size w w' := by
  have hinfo : (Tryz.prog.info? 3).map (fun i => (i.zero, i.size, i.bytes)) = some (some (.int .i64 0), 1, 8) := by kernel_rfl
  have hund : Tryz.prog.underlying 25 = some (.slice 3) := by kernel_rfl
  obtain ⟨i0, hi0, hz0, hz1, hz2⟩ := info_parts hinfo
  have hfield : ∀ (a b : Int) (w : World), (Instr.field 154 (.agg #[.int .i64 a, .int .i64 b]) 1).run Tryz.prog w = .ok (.int .i64 b) w := fun _ _ _ => by kernel_rfl
  have hb : Below w.heap.size w (w.alloc (.cells #[.pointer (some ⟨E.a, 0, none⟩), .int .i64 head, .func (.func f) #[.pointer (some ⟨E.p, 0, none⟩)] #[]] 60)) := (Below.refl _ _).alloc (Nat.le_refl _) _
  have q0 : (w.alloc (.cells #[.pointer (some ⟨E.a, 0, none⟩), .int .i64 head, .func (.func f) #[.pointer (some ⟨E.p, 0, none⟩)] #[]] 60)).cell? ⟨w.heap.size, 0, none⟩ = some (.pointer (some ⟨E.a, 0, none⟩)) := by go_simp
  have q1 : (w.alloc (.cells #[.pointer (some ⟨E.a, 0, none⟩), .int .i64 head, .func (.func f) #[.pointer (some ⟨E.p, 0, none⟩)] #[]] 60)).cell? ⟨w.heap.size, 1, none⟩ = some (.int .i64 head) := by go_simp
  have q2 : (w.alloc (.cells #[.pointer (some ⟨E.a, 0, none⟩), .int .i64 head, .func (.func f) #[.pointer (some ⟨E.p, 0, none⟩)] #[]] 60)).cell? ⟨w.heap.size, 2, none⟩ = some (.func (.func f) #[.pointer (some ⟨E.p, 0, none⟩)] #[]) := by go_simp
  have hgb := hg.below hb
  have HA := Go.Lib.hid (arena_all hgb.ar)
  have hn2 := hg.ar.n2
  have hm64 := hg.ar.m64 head
  have HP := Go.Lib.hid hgb.pl
  have HLK := Go.Lib.hid hlk
  have HF := Go.Lib.hid hf
  have HCH := Go.Lib.hid hch
  clear hg hgb hlk hch
  go_enter Tryz.func58, Tryz.ntmps58
  go_wp2_with fail
  generalize (w.alloc (.cells #[.pointer (some ⟨E.a, 0, none⟩), .int .i64 head, .func (.func f) #[.pointer (some ⟨E.p, 0, none⟩)] #[]] 60)) = W0 at *
  refine HA.out.mono ?_
  rintro e W1 ⟨rfl, hall⟩
  have hb1 := hall.bl
  have HC : Hid (∀ i, i < S.n → W1.cell? ⟨W0.heap.size, i, none⟩ = some (.int .u64 (S.m i : Nat))) := fun i hi => by have := hall.c0 i hi; rwa [if_pos hi] at this
  have q0 := below_cell hb1 q0
  have q1 := below_cell hb1 q1
  have q2 := below_cell hb1 q2
  have hp1 := HP.out.mono (hb1.block E.p (cell_lt HP.out.c0))
  have hbw := hb.trans (hb1.mono hb.size)
  generalize W0.heap.size = r at *
  have ch := HC.out head hh
  have i1 : (0 : Int) ≤ (head : Int) := by omega
  have i2 : (head : Int) < (S.n : Int) := by omega
  clear hall HA HP hb1 hb
  have HW := Go.Lib.hid (of_HeadOf (S.m head) W1 hm64)
  go_wp2_with fail
  refine HW.out.mono ?_
  rintro e W2 ⟨rfl, hb2⟩
  have q0 := below_cell hb2 q0
  have q1 := below_cell hb2 q1
  have q2 := below_cell hb2 q2
  have HC2 : Hid (∀ i, i < S.n → W2.cell? ⟨r, i, none⟩ = some (.int .u64 (S.m i : Nat))) := fun i hi => below_cell hb2 (HC.out i hi)
  have HP2 := Go.Lib.hid (hp1.mono (hb2.block E.p (cell_lt hp1.c0)))
  have hbw2 := hbw.trans (hb2.mono hbw.size)
  clear HW HC ch hp1 hb2 hbw
  have HBW := Go.Lib.hid hbw2
  clear hbw2
  generalize hiv : ((part (S.m head) 0 32 : Nat) : Int) - 1 = iv0 at *
  clear hiv
  go_wp2
  go_loopw [4, 5] (fun v i wr => ∃ (dn rest : List Nat) (iv : Int), xs = dn ++ rest ∧ i = .int .i64 iv ∧ ChainOf S lk iv rest ∧ wr.ownsRow W2.heap.size 3 1 v dn.length (dn.map fun (x : Nat) => Value.int .i64 (x : Int)) ∧ Below W2.heap.size W2 wr) (fun v _ _ => xs.length - (match v with | .slice _ n _ => n | _ => 0))
  case atStart => exact ⟨[], xs, iv0, rfl, rfl, HCH.out, World.ownsRow_nil _ _ _ _, Below.refl _ _⟩
  case round =>
    obtain ⟨dn, rest, iv, hxs, rfl, hch', hown, hbl⟩ := hrel
    obtain ⟨a, cap, hv⟩ := own_form hown
    have HOWN := Go.Lib.hid hown
    have HBL := Go.Lib.hid hbl
    subst hv
    cases rest with
    | nil =>
      obtain ⟨h1, h2⟩ := hch'
      have hD : decide (0 ≤ iv) = false := by simp; omega
      clear hown hbl q0 q1 q2
      go_wp2
      go_ret
      have hdn : dn = xs := by rw [hxs]; simp
      subst hdn
      exact ⟨_, rfl, own_mono HOWN.out HBW.out.size, HBW.out.trans (HBL.out.mono HBW.out.size)⟩
    | cons x rest' =>
      obtain ⟨rfl, h1, h2, h3⟩ := hch'
      have hD : decide ((0 : Int) ≤ (x : Int)) = true := by simp
      have hl1 : dn.length < xs.length := by rw [hxs]; simp
      have hD2 : decide ((dn.length : Int) ≤ (S.n : Int)) = true := by simp; omega
      have hmem : x ∈ xs := by rw [hxs]; simp
      have hsz := hbl.size
      have s1 : IntKind.i64.wrap (S.m (lk x) : Int) = (S.m (lk x) : Int) := IntWalk.i64_in _ (by omega)
      have s2 : IntKind.i64.wrap ((S.m (lk x) : Int) - 1) = (S.m (lk x) : Int) - 1 := IntWalk.i64_in _ (by omega)
      have j1 : (0 : Int) ≤ (lk x : Int) := by omega
      have j2 : (lk x : Int) < (S.n : Int) := by omega
      have HXS := Go.Lib.hid hxs
      have HLEN := Go.Lib.hid hlen
      have HH2 := Go.Lib.hid h2
      have HH3 := Go.Lib.hid h3
      have hl2 : dn.length ≤ 1048576 := by omega
      have hle : dn.length ≤ S.n := by omega
      clear hxs hlen h2 h3 hbl
      go_wp2_with (first
        | (at_builtin; refine wpList_append_own _ rfl _ _ 25 rfl W2.heap.size 3 i0 (.int .i64 0) 1 8 hund hi0 hz0 hz1 hz2 rfl (by decide) _ _ _ rfl (hown.alloc _) ⟨wr.heap.size, 0, none⟩ 1 1 [.int .i64 x] rfl rfl (cell_one_new _ _ _) (by intro u hu; simp at hu; subst hu; rfl) (by unfold maxLen; omega) (by omega) (by simp; omega) ?_; intro v1 w1 hown1 hgrow1 hnil1; have hb4 : Below W2.heap.size W2 w1 := (HBL.out.alloc hsz _).grown hgrow1 (by simp; omega) (fun k h => own_ge hown h); have r2 := below_cell hb4 q2; have r3 := below_cell hb4 (HC2.out _ h1))
        | (refine (HLK.out x hmem w1 (HP2.out.mono (hb4.block E.p (cell_lt HP2.out.c0)))).mono ?_; intro e w5 hq; obtain ⟨rfl, hb5⟩ := hq.below; clear hq; have r4 := below_cell hb5 r3))
      go_roundw
      case rel =>
        refine ⟨dn ++ [x], rest', (S.m (lk x) : Int) - 1, by rw [HXS.out]; simp, by first | rfl | simp [s1, s2], HH3.out, ?_, hb4.trans (hb5.mono hb4.size)⟩
        have h9 := own_kept hown1 (fun g hg => hb5.block g (own_lt hown1 hg))
        simp only [List.length_append, List.length_singleton, List.map_append, List.map_cons, List.map_nil]
        exact h9
      case measure =>
        obtain ⟨a1, cap1, hv1⟩ := own_form hown1
        subst hv1
        show xs.length - (dn.length + 1) < xs.length - dn.length
        omega
end Go.Proofs.YtgemjjpmoejgdaaGreat
/- What there is at first, place by place. -/
namespace Go.Proofs.YtgemjjpmoejgdaaGreat
set_option maxRecDepth 100000
set_option linter.unusedVariables false

theorem stateM_off (c : Cf) (m : Nat → Nat) (j : Nat) : ∀ k, (∀ i, i < k → j ≠ c.nodesAt + 4 * i) → stateM c m k j = m j
  | 0, _ => rfl
  | k + 1, h => by
    show upd (stateM c m k) (c.nodesAt + 4 * k) (freshW c) j = m j
    unfold upd
    rw [if_neg (h k (Nat.lt_succ_self k)), stateM_off c m j k fun i hi => h i (Nat.lt_succ_of_lt hi)]
theorem stateM_on (c : Cf) (m : Nat → Nat) (i : Nat) : ∀ k, i < k → stateM c m k (c.nodesAt + 4 * i) = freshW c
  | 0, h => absurd h (Nat.not_lt_zero _)
  | k + 1, h => by
    show upd (stateM c m k) (c.nodesAt + 4 * k) (freshW c) (c.nodesAt + 4 * i) = freshW c
    unfold upd
    by_cases e : i = k
    · subst e; rw [if_pos rfl]
    · rw [if_neg (by omega), stateM_on c m i k (by omega)]
theorem chainM_off (g m : Nat → Nat) (j : Nat) : ∀ k, (∀ i, i < k → j ≠ g i) → chainM g m k j = m j
  | 0, _ => rfl
  | k + 1, h => by
    show upd (chainM g m k) (g k) (k + 2) j = m j
    unfold upd
    rw [if_neg (h k (Nat.lt_succ_self k)), chainM_off g m j k fun i hi => h i (Nat.lt_succ_of_lt hi)]
theorem chainM_on (g m : Nat → Nat) (i : Nat) (hg : ∀ a b, g a = g b → a = b) : ∀ k, i < k → chainM g m k (g i) = i + 2
  | 0, h => absurd h (Nat.not_lt_zero _)
  | k + 1, h => by
    show upd (chainM g m k) (g k) (k + 2) (g i) = i + 2
    unfold upd
    by_cases e : i = k
    · subst e; rw [if_pos rfl]
    · rw [if_neg (fun q => e (hg _ _ q)), chainM_on g m i hg k (by omega)]

theorem freshM_zero {c : Cf} (hok : c.Ok) : freshM c 0 = 0 := by
  have h1 := hok.nodesAt_le
  have h2 := hok.ticketsAt_le
  unfold freshM chains
  rw [stateM_off _ _ _ _ (fun i _ => by omega), chainM_off _ _ _ _ (fun i _ => by omega)]
  unfold upd
  rw [if_neg (by omega), chainM_off _ _ _ _ (fun i _ => by omega), if_neg (by omega)]
theorem freshM_one {c : Cf} (hok : c.Ok) : freshM c 1 = 1 := by
  have h1 := hok.nodesAt_le
  have h2 := hok.ticketsAt_le
  unfold freshM chains
  rw [stateM_off _ _ _ _ (fun i _ => by omega), chainM_off _ _ _ _ (fun i _ => by omega)]
  unfold upd
  rw [if_neg (by omega), chainM_off _ _ _ _ (fun i _ => by omega), if_pos rfl]
theorem freshM_two {c : Cf} (hok : c.Ok) : freshM c 2 = 1 := by
  have h1 := hok.nodesAt_le
  have h2 := hok.ticketsAt_le
  unfold freshM chains
  rw [stateM_off _ _ _ _ (fun i _ => by omega), chainM_off _ _ _ _ (fun i _ => by omega)]
  unfold upd
  rw [if_pos rfl]
/-- A shard's places. -/
theorem freshM_shard {c : Cf} (j : Nat) (h : 3 ≤ j) (h' : j < c.nodesAt) : freshM c j = 0 := by
  have h2 : c.nodesAt ≤ c.ticketsAt := by unfold Cf.ticketsAt; omega
  unfold freshM chains
  rw [stateM_off _ _ _ _ (fun i _ => by omega), chainM_off _ _ _ _ (fun i _ => by omega)]
  unfold upd
  rw [if_neg (by omega), chainM_off _ _ _ _ (fun i _ => by omega), if_neg (by omega)]
theorem freshM_state {c : Cf} (i : Nat) (h : i < c.nodes) : freshM c (c.nodesAt + 4 * i) = freshW c := stateM_on c _ i _ h
theorem freshM_nodeLink {c : Cf} (hok : c.Ok) (i : Nat) (h : i < c.nodes) : freshM c (c.nodesAt + 4 * i + 3) = if i + 1 < c.nodes then i + 2 else 0 := by
  have h1 := hok.nodesAt_le
  have h2 : c.ticketsAt = c.nodesAt + 4 * c.nodes := rfl
  unfold freshM chains
  rw [stateM_off _ _ _ _ (fun i' _ => by omega), chainM_off _ _ _ _ (fun i' _ => by omega)]
  unfold upd
  rw [if_neg (by omega)]
  by_cases e : i + 1 < c.nodes
  · rw [if_pos e]
    exact chainM_on (fun i => c.nodesAt + 4 * i + 3) _ i (fun a b h => by omega) _ (by omega)
  · rw [if_neg e, chainM_off _ _ _ _ (fun i' hi' => by omega), if_neg (by omega)]
theorem freshM_ticketLink {c : Cf} (hok : c.Ok) (i : Nat) (h : i < c.tickets) : freshM c (c.ticketsAt + 3 * i + 2) = if i + 1 < c.tickets then i + 2 else 0 := by
  have h1 := hok.nodesAt_le
  have h2 : c.ticketsAt = c.nodesAt + 4 * c.nodes := rfl
  unfold freshM chains
  rw [stateM_off _ _ _ _ (fun i' _ => by omega)]
  by_cases e : i + 1 < c.tickets
  · rw [if_pos e]
    exact chainM_on (fun i => c.ticketsAt + 3 * i + 2) _ i (fun a b h => by omega) _ (by omega)
  · rw [if_neg e, chainM_off _ _ _ _ (fun i' hi' => by omega)]
    unfold upd
    rw [if_neg (by omega), chainM_off _ _ _ _ (fun i' hi' => by omega), if_neg (by omega)]
/-- A chain through all numbers from k on. -/
theorem chain_all {S : St} {lk : Nat → Nat} {n : Nat} (hlt : ∀ i, i < n → lk i < S.n) (hm : ∀ i, i < n → S.m (lk i) = if i + 1 < n then i + 2 else 0) (hn : n ≤ 1000000) :
    ∀ d k, k + d = n → (0 < d ∨ k = 0) → ChainOf S lk (if 0 < d then (k : Int) else -1) (List.range' k d)
  | 0, k, h, _ => by
    rw [if_neg (by omega)]
    exact ⟨by omega, by omega⟩
  | d + 1, k, h, _ => by
    rw [if_pos (by omega), List.range'_succ]
    have hk : k < n := by omega
    refine ⟨rfl, hlt k hk, ?_, ?_⟩
    · rw [hm k hk]; split <;> omega
    · rw [hm k hk]
      by_cases e : k + 1 < n
      · rw [if_pos e]
        have := chain_all hlt hm hn d (k + 1) (by omega) (.inl (by omega))
        rw [if_pos (by omega)] at this
        have e2 : ((k + 2 : Nat) : Int) - 1 = ((k + 1 : Nat) : Int) := by omega
        rw [e2]; exact this
      · rw [if_neg e]
        obtain rfl : d = 0 := by omega
        exact ⟨by omega, by omega⟩
theorem nodes_chain {c : Cf} (hok : c.Ok) : ChainOf (S0 c) (fun i => c.nodesAt + 4 * i + 3) ((part ((S0 c).m 1) 0 32 : Nat) - 1) (List.range' 0 c.nodes) := by
  have h1 := hok.n1
  have h2 := hok.n2
  have h := chain_all (S := S0 c) (lk := fun i => c.nodesAt + 4 * i + 3) (n := c.nodes) (fun i hi => by
    show c.nodesAt + 4 * i + 3 < c.size
    unfold Cf.size Cf.connsAt Cf.ticketsAt; omega) (fun i hi => freshM_nodeLink hok i hi) (by omega) c.nodes 0 (by omega) (.inl (by omega))
  rw [if_pos (by omega)] at h
  have e : (S0 c).m 1 = 1 := freshM_one hok
  rw [e]
  exact h
theorem tickets_chain {c : Cf} (hok : c.Ok) : ChainOf (S0 c) (fun i => c.ticketsAt + 3 * i + 2) ((part ((S0 c).m 2) 0 32 : Nat) - 1) (List.range' 0 c.tickets) := by
  have h1 := hok.t1
  have h2 := hok.t2
  have h := chain_all (S := S0 c) (lk := fun i => c.ticketsAt + 3 * i + 2) (n := c.tickets) (fun i hi => by
    show c.ticketsAt + 3 * i + 2 < c.size
    unfold Cf.size Cf.connsAt; omega) (fun i hi => freshM_ticketLink hok i hi) (by omega) c.tickets 0 (by omega) (.inl (by omega))
  rw [if_pos (by omega)] at h
  have e : (S0 c).m 2 = 1 := freshM_two hok
  rw [e]
  exact h
end Go.Proofs.YtgemjjpmoejgdaaGreat
/- Two lists of numbers that are the same; what a core has; the document's example. -/
namespace Go.Proofs.YtgemjjpmoejgdaaGreat
open Go.RowKit
set_option maxRecDepth 100000
set_option linter.unusedVariables false

theorem own_cell {w : World} {base : Nat} {e : TypeId} {v : Value} {n : Nat} {xs : List Value} (h : w.ownsRow base e 1 v n xs) (hn : 0 < n) :
    ∃ g cap, v = .slice (some ⟨g, 0, none⟩) n cap ∧ ∀ i, i < n → w.cell? ⟨g, i, none⟩ = some (xs.getD i (.bool false)) := by
  rcases h.2 with ⟨_, h0⟩ | ⟨g, cap, cur, rfl, _, hb, h1, h2, h3, h4⟩
  · omega
  · refine ⟨g, cap, rfl, fun i hi => ?_⟩
    rw [cell_of_row _ _ _ _ _ _ hb]
    have hlt : i < cur.size := by omega
    have h5 : xs[i]? = cur[i]? := by
      rw [← h4, List.getElem?_take]
      simp; omega
    have h6 : i < xs.length := by rw [h.1]; omega
    rw [List.getD_eq_getElem?_getD, h5]
    simp [hlt]

end Go.Proofs.YtgemjjpmoejgdaaGreat
/- The document's example: it holds. -/
namespace Go.Proofs.YtgemjjpmoejgdaaGreat
open Go.RowKit
set_option maxRecDepth 100000
set_option linter.unusedVariables false

theorem Shr.below_old {L L' : Lab} {w W W' : World} {n : Nat} (h : Shr L W L' W') (hb : Below n w W) (hn : n ≤ w.heap.size) (old : ∀ b, b < n → L b = 0) : Below n w W' :=
  ⟨h.os.trans hb.os, h.tape.trans hb.tape, h.output.trans hb.output, Nat.le_trans hb.size h.size, fun b hb' => (h.block b (by have := hb.size; omega) (.inl (old b hb'))).trans (hb.block b hb')⟩

def c0 : Cf := ⟨1, 1, 1, 3, 1, 0, 0, 0, 1, 1, 1, 0, 0⟩
end Go.Proofs.YtgemjjpmoejgdaaGreat
/- The document's configurations: which may be. -/
namespace Go.Proofs.YtgemjjpmoejgdaaGreat
open Go.RowKit
set_option maxRecDepth 100000
set_option linter.unusedVariables false

def leastN : List Nat := [1, 1, 1, 1, 1, 0, 0, 0, 1, 1, 1, 0, 0]
def mostN : List Nat := [64, 8, 6, 4096, 8192, 1073741823, 4294967295, 256, 1073741823, 1073741823, 1073741823, 1073741823, 31]
set_option maxHeartbeats 1000000 in
theorem ref_least (i : Nat) (hi : i < 13) (w : World) : Calls Tryz.prog 231 #[.int .i64 i] w fun e w' => e = .returned (.int .i64 (leastN.getD i 0 : Nat)) ∧ w' = w := by
  match i, hi with
  | 0, _ | 1, _ | 2, _ | 3, _ | 4, _ | 5, _ | 6, _ | 7, _ | 8, _ | 9, _ | 10, _ | 11, _ | 12, _ =>
    go_enter Tryz.func231, Tryz.ntmps231
    go_wp2
    go_ret
    exact ⟨rfl, rfl⟩
set_option maxHeartbeats 1000000 in
theorem ref_most (i : Nat) (hi : i < 13) (w : World) : Calls Tryz.prog 232 #[.int .i64 i] w fun e w' => e = .returned (.int .i64 (mostN.getD i 0 : Nat)) ∧ w' = w := by
  match i, hi with
  | 0, _ | 1, _ | 2, _ | 3, _ | 4, _ | 5, _ | 6, _ | 7, _ | 8, _ | 9, _ | 10, _ | 11, _ | 12, _ =>
    go_enter Tryz.func232, Tryz.ntmps232
    go_wp2
    go_ret
    exact ⟨rfl, rfl⟩
theorem below_drewN' {n : Nat} {w W : World} (hb : Below n w W) (q : Nat) : Below n w (W.drewN q) := ⟨hb.os, hb.tape, hb.output, hb.size, hb.block⟩
def okI (x : Nat → Int) : Prop := ∀ i, i < 13 → (leastN.getD i 0 : Int) ≤ x i ∧ x i ≤ (mostN.getD i 0 : Int)
instance (x : Nat → Int) : Decidable (okI x) := by unfold okI; infer_instance
set_option maxHeartbeats 2000000 in
theorem ref_Check (x : Nat → Int) (w : World) : Calls Tryz.prog 176 #[.agg #[.int .i64 (x 0), .int .i64 (x 1), .int .i64 (x 2), .int .i64 (x 3), .int .i64 (x 4), .int .i64 (x 5), .int .i64 (x 6), .int .i64 (x 7), .int .i64 (x 8), .int .i64 (x 9), .int .i64 (x 10), .int .i64 (x 11), .int .i64 (x 12)]] w fun e w' => ∃ a, e = .returned (.tuple #[.int .i64 a, .int .i64 (if okI x then 0 else 7)]) ∧ Below w.heap.size w w' := by
  have hc : ∀ k, k < 13 → (w.alloc (.cells #[.int .i64 (x 0), .int .i64 (x 1), .int .i64 (x 2), .int .i64 (x 3), .int .i64 (x 4), .int .i64 (x 5), .int .i64 (x 6), .int .i64 (x 7), .int .i64 (x 8), .int .i64 (x 9), .int .i64 (x 10), .int .i64 (x 11), .int .i64 (x 12)] 23)).cell? ⟨w.heap.size, k, none⟩ = some (.int .i64 (x k)) := by
    intro k hk
    rw [World.cell?_alloc_new]
    match k, hk with
    | 0, _ | 1, _ | 2, _ | 3, _ | 4, _ | 5, _ | 6, _ | 7, _ | 8, _ | 9, _ | 10, _ | 11, _ | 12, _ => rfl
  have hb : Below w.heap.size w (w.alloc (.cells #[.int .i64 (x 0), .int .i64 (x 1), .int .i64 (x 2), .int .i64 (x 3), .int .i64 (x 4), .int .i64 (x 5), .int .i64 (x 6), .int .i64 (x 7), .int .i64 (x 8), .int .i64 (x 9), .int .i64 (x 10), .int .i64 (x 11), .int .i64 (x 12)] 23)) := (Below.refl _ _).alloc (Nat.le_refl _) _
  have HC := Go.Lib.hid hc
  clear hc
  go_enter Tryz.func176, Tryz.ntmps176
  go_wp2
  generalize (w.alloc (.cells #[.int .i64 (x 0), .int .i64 (x 1), .int .i64 (x 2), .int .i64 (x 3), .int .i64 (x 4), .int .i64 (x 5), .int .i64 (x 6), .int .i64 (x 7), .int .i64 (x 8), .int .i64 (x 9), .int .i64 (x 10), .int .i64 (x 11), .int .i64 (x 12)] 23)) = W at *
  generalize hbx : w.heap.size = bx at *
  go_loopw [4] (fun i wr => ∃ k : Nat, k ≤ 13 ∧ i = .int .i64 k ∧ Below W.heap.size W wr ∧ ∀ j, j < k → (leastN.getD j 0 : Int) ≤ x j ∧ x j ≤ (mostN.getD j 0 : Int)) (fun i _ => 13 - (intOf i).toNat)
  case atStart => exact ⟨0, Nat.zero_le _, rfl, Below.refl _ _, fun j hj => absurd hj (by omega)⟩
  case round =>
    obtain ⟨k, hk, rfl, hbw, hall⟩ := hrel
    have hbT := hb.trans (hbw.mono (hbx ▸ hb.size))
    have HALL := Go.Lib.hid hall
    clear hall
    by_cases hlt : k < 13
    · have e1 := below_cell hbw (HC.out k hlt)
      have b1 : (0 : Int) ≤ (k : Int) := by omega
      have b2 : (k : Int) < 13 := by omega
      have HL := Go.Lib.hid (ref_least k hlt)
      have HM := Go.Lib.hid (ref_most k hlt)
      have HOK : Hid (okI x → (leastN.getD k 0 : Int) ≤ x k ∧ x k ≤ (mostN.getD k 0 : Int)) := fun h => h k hlt
      have HNX : Hid ((leastN.getD k 0 : Int) ≤ x k ∧ x k ≤ (mostN.getD k 0 : Int) → ∀ j, j < k + 1 → (leastN.getD j 0 : Int) ≤ x j ∧ x j ≤ (mostN.getD j 0 : Int)) := fun h j hj => by
        by_cases e : j = k
        · subst e; exact h
        · exact HALL.out j (by omega)
      generalize leastN.getD k 0 = lo at *
      generalize mostN.getD k 0 = hi at *
      generalize x k = v at *
      by_cases h1 : v < (lo : Int)
      · have hno : ¬ okI x := fun h => by have := HOK.out h; omega
        go_wp2
        go_quiet (first
          | (go_at_call 231; refine Calls.quiet_of_same (HL.out _))
          | (go_at_call 232; refine Calls.quiet_of_same (HM.out _)))
        go_wp2
        go_ret2
        exact ⟨⟨k, by first | rfl | (rw [if_neg hno]; rfl)⟩, below_drewN' hbT nq⟩
      · by_cases h2 : v > (hi : Int)
        · have hno : ¬ okI x := fun h => by have := HOK.out h; omega
          go_wp2
          go_quiet (first
            | (go_at_call 231; refine Calls.quiet_of_same (HL.out _))
            | (go_at_call 232; refine Calls.quiet_of_same (HM.out _)))
          go_wp2
          go_ret2
          exact ⟨⟨k, by first | rfl | (rw [if_neg hno]; rfl)⟩, below_drewN' hbT nq⟩
        · have hnx := Go.Lib.hid (HNX.out (by omega))
          go_wp2
          go_quiet (first
            | (go_at_call 231; refine Calls.quiet_of_same (HL.out _))
            | (go_at_call 232; refine Calls.quiet_of_same (HM.out _)))
          go_wp2
          exact ⟨⟨k + 1, by omega, by go_num, below_drewN' hbw nq, hnx.out⟩, by simp [intOf]; omega⟩
    · have s4 : ((k : Int) < 13) = False := by simp; omega
      have hyes : okI x := fun i hi => HALL.out i (by omega)
      go_wp2
      go_ret2
      exact ⟨⟨0, by first | rfl | (rw [if_pos hyes]; rfl)⟩, hbT⟩
end Go.Proofs.YtgemjjpmoejgdaaGreat
/- The document's configurations: the small ones; a core of one. -/
namespace Go.Proofs.YtgemjjpmoejgdaaGreat
open Go.RowKit
set_option maxRecDepth 100000
set_option linter.unusedVariables false

set_option maxHeartbeats 1000000 in
theorem ref_Right (x : Nat → Int) (w : World) : Calls Tryz.prog 77 #[.agg #[.int .i64 (x 0), .int .i64 (x 1), .int .i64 (x 2), .int .i64 (x 3), .int .i64 (x 4), .int .i64 (x 5), .int .i64 (x 6), .int .i64 (x 7), .int .i64 (x 8), .int .i64 (x 9), .int .i64 (x 10), .int .i64 (x 11), .int .i64 (x 12)]] w fun e w' => e = .returned (.bool (decide (okI x))) ∧ Below w.heap.size w w' := by
  have hb : Below w.heap.size w (w.alloc (.cells #[.int .i64 (x 0), .int .i64 (x 1), .int .i64 (x 2), .int .i64 (x 3), .int .i64 (x 4), .int .i64 (x 5), .int .i64 (x 6), .int .i64 (x 7), .int .i64 (x 8), .int .i64 (x 9), .int .i64 (x 10), .int .i64 (x 11), .int .i64 (x 12)] 23)) := (Below.refl _ _).alloc (Nat.le_refl _) _
  have HC := Go.Lib.hid (ref_Check x)
  by_cases h : okI x
  · simp only [h, if_true] at HC
    rw [decide_eq_true h]
    clear h
    go_enter Tryz.func77, Tryz.ntmps77
    go_wp2_with fail
    refine (HC.out _).mono ?_
    rintro e w' ⟨a, rfl, hb1⟩
    have hb2 := hb.trans (hb1.mono hb.size)
    clear hb1 hb
    go_wp2
    go_ret
    exact ⟨rfl, hb2⟩
  · simp only [h, if_false] at HC
    rw [decide_eq_false h]
    clear h
    go_enter Tryz.func77, Tryz.ntmps77
    go_wp2_with fail
    refine (HC.out _).mono ?_
    rintro e w' ⟨a, rfl, hb1⟩
    have hb2 := hb.trans (hb1.mono hb.size)
    clear hb1 hb
    go_wp2
    go_ret
    exact ⟨rfl, hb2⟩
def smallI (x : Nat → Int) : Prop := okI x ∧ x 0 ≤ 6 ∧ x 1 ≤ 6 ∧ x 2 ≤ 4 ∧ x 3 ≤ 12 ∧ x 4 ≤ 30 ∧ x 7 ≤ 8
instance (x : Nat → Int) : Decidable (smallI x) := by unfold smallI; infer_instance
set_option maxHeartbeats 2000000 in
theorem law15_Small (x : Nat → Int) (w : World) : Calls Tryz.prog 12 #[.agg #[.int .i64 (x 0), .int .i64 (x 1), .int .i64 (x 2), .int .i64 (x 3), .int .i64 (x 4), .int .i64 (x 5), .int .i64 (x 6), .int .i64 (x 7), .int .i64 (x 8), .int .i64 (x 9), .int .i64 (x 10), .int .i64 (x 11), .int .i64 (x 12)]] w fun e w' => e = .returned (.bool (decide (smallI x))) ∧ Below w.heap.size w w' := by
  have hb : Below w.heap.size w (w.alloc (.cells #[.int .i64 (x 0), .int .i64 (x 1), .int .i64 (x 2), .int .i64 (x 3), .int .i64 (x 4), .int .i64 (x 5), .int .i64 (x 6), .int .i64 (x 7), .int .i64 (x 8), .int .i64 (x 9), .int .i64 (x 10), .int .i64 (x 11), .int .i64 (x 12)] 23)) := (Below.refl _ _).alloc (Nat.le_refl _) _
  have e0 : (w.alloc (.cells #[.int .i64 (x 0), .int .i64 (x 1), .int .i64 (x 2), .int .i64 (x 3), .int .i64 (x 4), .int .i64 (x 5), .int .i64 (x 6), .int .i64 (x 7), .int .i64 (x 8), .int .i64 (x 9), .int .i64 (x 10), .int .i64 (x 11), .int .i64 (x 12)] 23)).cell? ⟨w.heap.size, 0, none⟩ = some (.int .i64 (x 0)) := by go_simp
  have e1 : (w.alloc (.cells #[.int .i64 (x 0), .int .i64 (x 1), .int .i64 (x 2), .int .i64 (x 3), .int .i64 (x 4), .int .i64 (x 5), .int .i64 (x 6), .int .i64 (x 7), .int .i64 (x 8), .int .i64 (x 9), .int .i64 (x 10), .int .i64 (x 11), .int .i64 (x 12)] 23)).cell? ⟨w.heap.size, 1, none⟩ = some (.int .i64 (x 1)) := by go_simp
  have e2 : (w.alloc (.cells #[.int .i64 (x 0), .int .i64 (x 1), .int .i64 (x 2), .int .i64 (x 3), .int .i64 (x 4), .int .i64 (x 5), .int .i64 (x 6), .int .i64 (x 7), .int .i64 (x 8), .int .i64 (x 9), .int .i64 (x 10), .int .i64 (x 11), .int .i64 (x 12)] 23)).cell? ⟨w.heap.size, 2, none⟩ = some (.int .i64 (x 2)) := by go_simp
  have e3 : (w.alloc (.cells #[.int .i64 (x 0), .int .i64 (x 1), .int .i64 (x 2), .int .i64 (x 3), .int .i64 (x 4), .int .i64 (x 5), .int .i64 (x 6), .int .i64 (x 7), .int .i64 (x 8), .int .i64 (x 9), .int .i64 (x 10), .int .i64 (x 11), .int .i64 (x 12)] 23)).cell? ⟨w.heap.size, 3, none⟩ = some (.int .i64 (x 3)) := by go_simp
  have e4 : (w.alloc (.cells #[.int .i64 (x 0), .int .i64 (x 1), .int .i64 (x 2), .int .i64 (x 3), .int .i64 (x 4), .int .i64 (x 5), .int .i64 (x 6), .int .i64 (x 7), .int .i64 (x 8), .int .i64 (x 9), .int .i64 (x 10), .int .i64 (x 11), .int .i64 (x 12)] 23)).cell? ⟨w.heap.size, 4, none⟩ = some (.int .i64 (x 4)) := by go_simp
  have e5 : (w.alloc (.cells #[.int .i64 (x 0), .int .i64 (x 1), .int .i64 (x 2), .int .i64 (x 3), .int .i64 (x 4), .int .i64 (x 5), .int .i64 (x 6), .int .i64 (x 7), .int .i64 (x 8), .int .i64 (x 9), .int .i64 (x 10), .int .i64 (x 11), .int .i64 (x 12)] 23)).cell? ⟨w.heap.size, 5, none⟩ = some (.int .i64 (x 5)) := by go_simp
  have e6 : (w.alloc (.cells #[.int .i64 (x 0), .int .i64 (x 1), .int .i64 (x 2), .int .i64 (x 3), .int .i64 (x 4), .int .i64 (x 5), .int .i64 (x 6), .int .i64 (x 7), .int .i64 (x 8), .int .i64 (x 9), .int .i64 (x 10), .int .i64 (x 11), .int .i64 (x 12)] 23)).cell? ⟨w.heap.size, 6, none⟩ = some (.int .i64 (x 6)) := by go_simp
  have e7 : (w.alloc (.cells #[.int .i64 (x 0), .int .i64 (x 1), .int .i64 (x 2), .int .i64 (x 3), .int .i64 (x 4), .int .i64 (x 5), .int .i64 (x 6), .int .i64 (x 7), .int .i64 (x 8), .int .i64 (x 9), .int .i64 (x 10), .int .i64 (x 11), .int .i64 (x 12)] 23)).cell? ⟨w.heap.size, 7, none⟩ = some (.int .i64 (x 7)) := by go_simp
  have e8 : (w.alloc (.cells #[.int .i64 (x 0), .int .i64 (x 1), .int .i64 (x 2), .int .i64 (x 3), .int .i64 (x 4), .int .i64 (x 5), .int .i64 (x 6), .int .i64 (x 7), .int .i64 (x 8), .int .i64 (x 9), .int .i64 (x 10), .int .i64 (x 11), .int .i64 (x 12)] 23)).cell? ⟨w.heap.size, 8, none⟩ = some (.int .i64 (x 8)) := by go_simp
  have e9 : (w.alloc (.cells #[.int .i64 (x 0), .int .i64 (x 1), .int .i64 (x 2), .int .i64 (x 3), .int .i64 (x 4), .int .i64 (x 5), .int .i64 (x 6), .int .i64 (x 7), .int .i64 (x 8), .int .i64 (x 9), .int .i64 (x 10), .int .i64 (x 11), .int .i64 (x 12)] 23)).cell? ⟨w.heap.size, 9, none⟩ = some (.int .i64 (x 9)) := by go_simp
  have e10 : (w.alloc (.cells #[.int .i64 (x 0), .int .i64 (x 1), .int .i64 (x 2), .int .i64 (x 3), .int .i64 (x 4), .int .i64 (x 5), .int .i64 (x 6), .int .i64 (x 7), .int .i64 (x 8), .int .i64 (x 9), .int .i64 (x 10), .int .i64 (x 11), .int .i64 (x 12)] 23)).cell? ⟨w.heap.size, 10, none⟩ = some (.int .i64 (x 10)) := by go_simp
  have e11 : (w.alloc (.cells #[.int .i64 (x 0), .int .i64 (x 1), .int .i64 (x 2), .int .i64 (x 3), .int .i64 (x 4), .int .i64 (x 5), .int .i64 (x 6), .int .i64 (x 7), .int .i64 (x 8), .int .i64 (x 9), .int .i64 (x 10), .int .i64 (x 11), .int .i64 (x 12)] 23)).cell? ⟨w.heap.size, 11, none⟩ = some (.int .i64 (x 11)) := by go_simp
  have e12 : (w.alloc (.cells #[.int .i64 (x 0), .int .i64 (x 1), .int .i64 (x 2), .int .i64 (x 3), .int .i64 (x 4), .int .i64 (x 5), .int .i64 (x 6), .int .i64 (x 7), .int .i64 (x 8), .int .i64 (x 9), .int .i64 (x 10), .int .i64 (x 11), .int .i64 (x 12)] 23)).cell? ⟨w.heap.size, 12, none⟩ = some (.int .i64 (x 12)) := by go_simp
  have HR := Go.Lib.hid (ref_Right x)
  have hsm : decide (smallI x) = ((((((decide (okI x) && decide (x 0 ≤ 6)) && decide (x 1 ≤ 6)) && decide (x 2 ≤ 4)) && decide (x 3 ≤ 12)) && decide (x 4 ≤ 30)) && decide (x 7 ≤ 8)) := by
    rw [Bool.eq_iff_iff]; simp [smallI, and_assoc]; exact decide_eq_true_iff
  rw [hsm]
  clear hsm
  generalize hok : decide (okI x) = ok at *
  replace hok := Go.Lib.hid hok
  go_enter Tryz.func12, Tryz.ntmps12
  go_wp2_with fail
  refine (HR.out _).mono ?_
  rintro e w' ⟨rfl, hb1⟩
  have e0 := below_cell hb1 e0
  have e1 := below_cell hb1 e1
  have e2 := below_cell hb1 e2
  have e3 := below_cell hb1 e3
  have e4 := below_cell hb1 e4
  have e5 := below_cell hb1 e5
  have e6 := below_cell hb1 e6
  have e7 := below_cell hb1 e7
  have e8 := below_cell hb1 e8
  have e9 := below_cell hb1 e9
  have e10 := below_cell hb1 e10
  have e11 := below_cell hb1 e11
  have e12 := below_cell hb1 e12
  have hb2 := hb.trans (hb1.mono hb.size)
  clear hb1 hb HR
  cases ok with
  | false =>
    go_wp2
    go_ret
    exact ⟨by simp, hb2⟩
  | true =>
    by_cases d0 : x 0 ≤ 6
    · skip
      by_cases d1 : x 1 ≤ 6
      · skip
        by_cases d2 : x 2 ≤ 4
        · skip
          by_cases d3 : x 3 ≤ 12
          · skip
            by_cases d4 : x 4 ≤ 30
            · skip
              by_cases d5 : x 7 ≤ 8
              · skip
                go_wp2
                go_ret
                exact ⟨by first | (simp [*]; done) | (simp [*]; intros; omega), hb2⟩
              · go_wp2
                go_ret
                exact ⟨by first | (simp [*]; done) | (simp [*]; intros; omega), hb2⟩
            · go_wp2
              go_ret
              exact ⟨by first | (simp [*]; done) | (simp [*]; intros; omega), hb2⟩
          · go_wp2
            go_ret
            exact ⟨by first | (simp [*]; done) | (simp [*]; intros; omega), hb2⟩
        · go_wp2
          go_ret
          exact ⟨by first | (simp [*]; done) | (simp [*]; intros; omega), hb2⟩
      · go_wp2
        go_ret
        exact ⟨by first | (simp [*]; done) | (simp [*]; intros; omega), hb2⟩
    · go_wp2
      go_ret
      exact ⟨by first | (simp [*]; done) | (simp [*]; intros; omega), hb2⟩
end Go.Proofs.YtgemjjpmoejgdaaGreat
