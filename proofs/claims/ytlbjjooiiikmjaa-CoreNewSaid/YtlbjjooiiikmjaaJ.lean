/- The core's things: its stacks, a shard's box and wheel. -/
import Derived.Test.YtlbjjooiiikmjaaI
import Derived.Test.YtlbjjooiiikmjaaQ
import Derived.Laws.EntriesVeiled
namespace Go.Proofs.Ytlbjjooiiikmjaa
open Go.RowKit
set_option maxRecDepth 100000
set_option linter.unusedVariables false

def linkVal (f : FuncId) (E : G) : Value := .func (.func f) #[.pointer (some ⟨E.p, 0, none⟩)] #[]
set_option maxHeartbeats 400000 in
theorem core_log {E : G} {L : Lab} {S : St} {w : World} (hg : Good E L S w) :
    Calls Try.prog 14 #[.pointer (some ⟨E.k, 0, none⟩)] w fun e w' => e = .returned (.pointer (some ⟨E.k, 2, none⟩)) ∧ w' = w := by
  clear hg
  go_enter Try.func14, Try.ntmps14
  go_wp2
  go_ret
  exact ⟨rfl, rfl⟩
def nodesVal (E : G) : Value := .agg #[.pointer (some ⟨E.a, 0, none⟩), .int .i64 1, linkVal 48 E]
set_option maxHeartbeats 1000000 in
theorem core_Nodes {E : G} {L : Lab} {S : St} {w : World} (hg : Good E L S w) :
    Calls Try.prog 25 #[.pointer (some ⟨E.k, 0, none⟩)] w fun e w' => e = .returned (nodesVal E) ∧ Below w.heap.size w w' := by
  have k0 := hg.k0
  have k1 := hg.k1
  have lk := cell_lt k0
  clear hg
  go_enter Try.func25, Try.ntmps25
  go_wp2
  have hb : Below w.heap.size w (w.alloc (.cells #[.pointer none, .int .i64 0, .nilFunc] 56)) := (Below.refl _ _).alloc (Nat.le_refl _) _
  have c0 : (w.alloc (.cells #[.pointer none, .int .i64 0, .nilFunc] 56)).cell? ⟨w.heap.size, 0, none⟩ = some (.pointer none) := by go_simp
  have c1 : (w.alloc (.cells #[.pointer none, .int .i64 0, .nilFunc] 56)).cell? ⟨w.heap.size, 1, none⟩ = some (.int .i64 0) := by go_simp
  have c2 : (w.alloc (.cells #[.pointer none, .int .i64 0, .nilFunc] 56)).cell? ⟨w.heap.size, 2, none⟩ = some .nilFunc := by go_simp
  have f0 : (w.alloc (.cells #[.pointer none, .int .i64 0, .nilFunc] 56)).frozen? ⟨w.heap.size, 0, none⟩ = false := by go_simp
  have f1 : (w.alloc (.cells #[.pointer none, .int .i64 0, .nilFunc] 56)).frozen? ⟨w.heap.size, 1, none⟩ = false := by go_simp
  have f2 : (w.alloc (.cells #[.pointer none, .int .i64 0, .nilFunc] 56)).frozen? ⟨w.heap.size, 2, none⟩ = false := by go_simp
  replace k0 := below_cell hb k0
  replace k1 := below_cell hb k1
  generalize (w.alloc (.cells #[.pointer none, .int .i64 0, .nilFunc] 56)) = W at *
  go_still_tail 15, (by kernel_rfl)
  still_call (plan_Nodes _ _)
  repeat still_step
  refine wpStill_nil ?_
  change wpList _ _ _ _ _ (World.drew _)
  go_wp2
  have hb9 : Below w.heap.size w (World.drew (((W.setCell ⟨w.heap.size, 0, none⟩ (.pointer (some ⟨E.a, 0, none⟩))).setCell ⟨w.heap.size, 1, none⟩ (.int .i64 1)).setCell ⟨w.heap.size, 2, none⟩ (.func (.func 48) #[.pointer (some ⟨E.p, 0, none⟩)] #[]))) := (((hb.setCell (Nat.le_refl _) _).setCell (Nat.le_refl _) _).setCell (Nat.le_refl _) _).drew
  have d0 : (World.drew (((W.setCell ⟨w.heap.size, 0, none⟩ (.pointer (some ⟨E.a, 0, none⟩))).setCell ⟨w.heap.size, 1, none⟩ (.int .i64 1)).setCell ⟨w.heap.size, 2, none⟩ (.func (.func 48) #[.pointer (some ⟨E.p, 0, none⟩)] #[]))).cell? ⟨w.heap.size, 0, none⟩ = some (.pointer (some ⟨E.a, 0, none⟩)) := by go_simp
  have d1 : (World.drew (((W.setCell ⟨w.heap.size, 0, none⟩ (.pointer (some ⟨E.a, 0, none⟩))).setCell ⟨w.heap.size, 1, none⟩ (.int .i64 1)).setCell ⟨w.heap.size, 2, none⟩ (.func (.func 48) #[.pointer (some ⟨E.p, 0, none⟩)] #[]))).cell? ⟨w.heap.size, 1, none⟩ = some (.int .i64 1) := by go_simp
  have d2 : (World.drew (((W.setCell ⟨w.heap.size, 0, none⟩ (.pointer (some ⟨E.a, 0, none⟩))).setCell ⟨w.heap.size, 1, none⟩ (.int .i64 1)).setCell ⟨w.heap.size, 2, none⟩ (.func (.func 48) #[.pointer (some ⟨E.p, 0, none⟩)] #[]))).cell? ⟨w.heap.size, 2, none⟩ = some (.func (.func 48) #[.pointer (some ⟨E.p, 0, none⟩)] #[]) := by go_simp
  generalize (World.drew (((W.setCell ⟨w.heap.size, 0, none⟩ (.pointer (some ⟨E.a, 0, none⟩))).setCell ⟨w.heap.size, 1, none⟩ (.int .i64 1)).setCell ⟨w.heap.size, 2, none⟩ (.func (.func 48) #[.pointer (some ⟨E.p, 0, none⟩)] #[]))) = W9 at *
  exact bodyPost_ret (v := nodesVal E) (by simp [results, Try.results25, go_sem, nodesVal, linkVal, d0, d1, d2]) rfl ⟨rfl, hb9⟩
def ticketsVal (E : G) : Value := .agg #[.pointer (some ⟨E.a, 0, none⟩), .int .i64 2, linkVal 52 E]
set_option maxHeartbeats 1000000 in
theorem core_Tickets {E : G} {L : Lab} {S : St} {w : World} (hg : Good E L S w) :
    Calls Try.prog 28 #[.pointer (some ⟨E.k, 0, none⟩)] w fun e w' => e = .returned (ticketsVal E) ∧ Below w.heap.size w w' := by
  have k0 := hg.k0
  have k1 := hg.k1
  have lk := cell_lt k0
  clear hg
  go_enter Try.func28, Try.ntmps28
  go_wp2
  have hb : Below w.heap.size w (w.alloc (.cells #[.pointer none, .int .i64 0, .nilFunc] 56)) := (Below.refl _ _).alloc (Nat.le_refl _) _
  have c0 : (w.alloc (.cells #[.pointer none, .int .i64 0, .nilFunc] 56)).cell? ⟨w.heap.size, 0, none⟩ = some (.pointer none) := by go_simp
  have c1 : (w.alloc (.cells #[.pointer none, .int .i64 0, .nilFunc] 56)).cell? ⟨w.heap.size, 1, none⟩ = some (.int .i64 0) := by go_simp
  have c2 : (w.alloc (.cells #[.pointer none, .int .i64 0, .nilFunc] 56)).cell? ⟨w.heap.size, 2, none⟩ = some .nilFunc := by go_simp
  have f0 : (w.alloc (.cells #[.pointer none, .int .i64 0, .nilFunc] 56)).frozen? ⟨w.heap.size, 0, none⟩ = false := by go_simp
  have f1 : (w.alloc (.cells #[.pointer none, .int .i64 0, .nilFunc] 56)).frozen? ⟨w.heap.size, 1, none⟩ = false := by go_simp
  have f2 : (w.alloc (.cells #[.pointer none, .int .i64 0, .nilFunc] 56)).frozen? ⟨w.heap.size, 2, none⟩ = false := by go_simp
  replace k0 := below_cell hb k0
  replace k1 := below_cell hb k1
  generalize (w.alloc (.cells #[.pointer none, .int .i64 0, .nilFunc] 56)) = W at *
  go_still_tail 15, (by kernel_rfl)
  still_call (plan_Tickets _ _)
  repeat still_step
  refine wpStill_nil ?_
  change wpList _ _ _ _ _ (World.drew _)
  go_wp2
  have hb9 : Below w.heap.size w (World.drew (((W.setCell ⟨w.heap.size, 0, none⟩ (.pointer (some ⟨E.a, 0, none⟩))).setCell ⟨w.heap.size, 1, none⟩ (.int .i64 2)).setCell ⟨w.heap.size, 2, none⟩ (.func (.func 52) #[.pointer (some ⟨E.p, 0, none⟩)] #[]))) := (((hb.setCell (Nat.le_refl _) _).setCell (Nat.le_refl _) _).setCell (Nat.le_refl _) _).drew
  have d0 : (World.drew (((W.setCell ⟨w.heap.size, 0, none⟩ (.pointer (some ⟨E.a, 0, none⟩))).setCell ⟨w.heap.size, 1, none⟩ (.int .i64 2)).setCell ⟨w.heap.size, 2, none⟩ (.func (.func 52) #[.pointer (some ⟨E.p, 0, none⟩)] #[]))).cell? ⟨w.heap.size, 0, none⟩ = some (.pointer (some ⟨E.a, 0, none⟩)) := by go_simp
  have d1 : (World.drew (((W.setCell ⟨w.heap.size, 0, none⟩ (.pointer (some ⟨E.a, 0, none⟩))).setCell ⟨w.heap.size, 1, none⟩ (.int .i64 2)).setCell ⟨w.heap.size, 2, none⟩ (.func (.func 52) #[.pointer (some ⟨E.p, 0, none⟩)] #[]))).cell? ⟨w.heap.size, 1, none⟩ = some (.int .i64 2) := by go_simp
  have d2 : (World.drew (((W.setCell ⟨w.heap.size, 0, none⟩ (.pointer (some ⟨E.a, 0, none⟩))).setCell ⟨w.heap.size, 1, none⟩ (.int .i64 2)).setCell ⟨w.heap.size, 2, none⟩ (.func (.func 52) #[.pointer (some ⟨E.p, 0, none⟩)] #[]))).cell? ⟨w.heap.size, 2, none⟩ = some (.func (.func 52) #[.pointer (some ⟨E.p, 0, none⟩)] #[]) := by go_simp
  generalize (World.drew (((W.setCell ⟨w.heap.size, 0, none⟩ (.pointer (some ⟨E.a, 0, none⟩))).setCell ⟨w.heap.size, 1, none⟩ (.int .i64 2)).setCell ⟨w.heap.size, 2, none⟩ (.func (.func 52) #[.pointer (some ⟨E.p, 0, none⟩)] #[]))) = W9 at *
  exact bodyPost_ret (v := ticketsVal E) (by simp [results, Try.results28, go_sem, ticketsVal, linkVal, d0, d1, d2]) rfl ⟨rfl, hb9⟩
def boxVal (E : G) (s : Int) : Value := .agg #[.pointer (some ⟨E.a, 0, none⟩), .int .i64 (E.cf.inbox s), linkVal 52 E, .func (.func 54) #[.pointer (some ⟨E.k, 0, none⟩)] #[], .pointer (some ⟨E.a, 0, none⟩), .int .i64 2, linkVal 52 E]
set_option maxHeartbeats 4000000 in
theorem core_box {E : G} {L : Lab} {S : St} {w : World} (hg : Good E L S w) (s : Int) :
    Calls Try.prog 29 #[.pointer (some ⟨E.k, 0, none⟩), .int .i64 s] w fun e w' => e = .returned (boxVal E s) ∧ Below w.heap.size w w' := by
  have k0 := hg.k0
  have k1 := hg.k1
  have lk := cell_lt k0
  have hok := hg.ok
  have hb : Below w.heap.size w (w.alloc (.cells #[.pointer none, .int .i64 0, .nilFunc, .nilFunc, .pointer none, .int .i64 0, .nilFunc] 62)) := (Below.refl _ _).alloc (Nat.le_refl _) _
  have HG : Hid (∀ W', Below ((w.alloc (.cells #[.pointer none, .int .i64 0, .nilFunc, .nilFunc, .pointer none, .int .i64 0, .nilFunc] 62))).heap.size (w.alloc (.cells #[.pointer none, .int .i64 0, .nilFunc, .nilFunc, .pointer none, .int .i64 0, .nilFunc] 62)) W' → Good E L S W') := fun W' h => (hg.below hb).below h
  clear hg
  have HT : Hid (∀ W', Below ((w.alloc (.cells #[.pointer none, .int .i64 0, .nilFunc, .nilFunc, .pointer none, .int .i64 0, .nilFunc] 62))).heap.size (w.alloc (.cells #[.pointer none, .int .i64 0, .nilFunc, .nilFunc, .pointer none, .int .i64 0, .nilFunc] 62)) W' → Calls Try.prog 28 #[.pointer (some ⟨E.k, 0, none⟩)] W' fun e w' => e = .returned (.agg #[.pointer (some ⟨E.a, 0, none⟩), .int .i64 2, .func (.func 52) #[.pointer (some ⟨E.p, 0, none⟩)] #[]]) ∧ Below W'.heap.size W' w') := fun W' h => core_Tickets (HG.out W' h)
  go_enter Try.func29, Try.ntmps29
  go_wp2
  have c0 : (w.alloc (.cells #[.pointer none, .int .i64 0, .nilFunc, .nilFunc, .pointer none, .int .i64 0, .nilFunc] 62)).cell? ⟨w.heap.size, 0, none⟩ = some (.pointer none) := by go_simp
  have c1 : (w.alloc (.cells #[.pointer none, .int .i64 0, .nilFunc, .nilFunc, .pointer none, .int .i64 0, .nilFunc] 62)).cell? ⟨w.heap.size, 1, none⟩ = some (.int .i64 0) := by go_simp
  have c2 : (w.alloc (.cells #[.pointer none, .int .i64 0, .nilFunc, .nilFunc, .pointer none, .int .i64 0, .nilFunc] 62)).cell? ⟨w.heap.size, 2, none⟩ = some (.nilFunc) := by go_simp
  have c3 : (w.alloc (.cells #[.pointer none, .int .i64 0, .nilFunc, .nilFunc, .pointer none, .int .i64 0, .nilFunc] 62)).cell? ⟨w.heap.size, 3, none⟩ = some (.nilFunc) := by go_simp
  have c4 : (w.alloc (.cells #[.pointer none, .int .i64 0, .nilFunc, .nilFunc, .pointer none, .int .i64 0, .nilFunc] 62)).cell? ⟨w.heap.size, 4, none⟩ = some (.pointer none) := by go_simp
  have c5 : (w.alloc (.cells #[.pointer none, .int .i64 0, .nilFunc, .nilFunc, .pointer none, .int .i64 0, .nilFunc] 62)).cell? ⟨w.heap.size, 5, none⟩ = some (.int .i64 0) := by go_simp
  have c6 : (w.alloc (.cells #[.pointer none, .int .i64 0, .nilFunc, .nilFunc, .pointer none, .int .i64 0, .nilFunc] 62)).cell? ⟨w.heap.size, 6, none⟩ = some (.nilFunc) := by go_simp
  have f0 : (w.alloc (.cells #[.pointer none, .int .i64 0, .nilFunc, .nilFunc, .pointer none, .int .i64 0, .nilFunc] 62)).frozen? ⟨w.heap.size, 0, none⟩ = false := by go_simp
  have f1 : (w.alloc (.cells #[.pointer none, .int .i64 0, .nilFunc, .nilFunc, .pointer none, .int .i64 0, .nilFunc] 62)).frozen? ⟨w.heap.size, 1, none⟩ = false := by go_simp
  have f2 : (w.alloc (.cells #[.pointer none, .int .i64 0, .nilFunc, .nilFunc, .pointer none, .int .i64 0, .nilFunc] 62)).frozen? ⟨w.heap.size, 2, none⟩ = false := by go_simp
  have f3 : (w.alloc (.cells #[.pointer none, .int .i64 0, .nilFunc, .nilFunc, .pointer none, .int .i64 0, .nilFunc] 62)).frozen? ⟨w.heap.size, 3, none⟩ = false := by go_simp
  have f4 : (w.alloc (.cells #[.pointer none, .int .i64 0, .nilFunc, .nilFunc, .pointer none, .int .i64 0, .nilFunc] 62)).frozen? ⟨w.heap.size, 4, none⟩ = false := by go_simp
  have f5 : (w.alloc (.cells #[.pointer none, .int .i64 0, .nilFunc, .nilFunc, .pointer none, .int .i64 0, .nilFunc] 62)).frozen? ⟨w.heap.size, 5, none⟩ = false := by go_simp
  have f6 : (w.alloc (.cells #[.pointer none, .int .i64 0, .nilFunc, .nilFunc, .pointer none, .int .i64 0, .nilFunc] 62)).frozen? ⟨w.heap.size, 6, none⟩ = false := by go_simp
  replace k0 := below_cell hb k0
  replace k1 := below_cell hb k1
  have hne : w.heap.size ≠ E.k := by omega
  generalize (w.alloc (.cells #[.pointer none, .int .i64 0, .nilFunc, .nilFunc, .pointer none, .int .i64 0, .nilFunc] 62)) = W at *
  have k0' : ∀ d os, (Sort.grow (redrawn W d) os).cell? ⟨E.k, 0, none⟩ = some (.pointer (some ⟨E.p, 0, none⟩)) := fun d os => cell_regrown k0 d os
  have k1' : ∀ d os, (Sort.grow (redrawn W d) os).cell? ⟨E.k, 1, none⟩ = some (.pointer (some ⟨E.a, 0, none⟩)) := fun d os => cell_regrown k1 d os
  refine wp_region_below_tail 20 (by kernel_rfl) (by kernel_rfl) ?_
  simp only [List.take_succ_cons, List.take_zero, List.drop_succ_cons, List.drop_zero]
  repeat
    (refine wpQuiet_step (fun K hK => ?_)
     go_simp
     first
       | (refine hK _ ?_; clear hK K)
       | (apply Exists.intro
          refine ⟨fun p => ?_, hK _ ?_⟩
          first
            | exact Calls.regrown_of ((plan_Inbox hok E.p s _ (HG.out _ (below_regrown W p.d p.os)).pl).mono (fun _ _ h => h.below))
            | exact Calls.regrown_of (HT.out _ (below_regrown W p.d p.os))
          clear hK K))
  refine wpQuiet_nil ?_
  intro w' hw'
  obtain ⟨p, rfl⟩ := hw'
  have hbp := hb.trans ((below_regrown W p.d p.os).mono hb.size)
  have f0 := ((below_regrown W p.d p.os).frozen (cell_lt c0)).trans f0
  have f1 := ((below_regrown W p.d p.os).frozen (cell_lt c1)).trans f1
  have f2 := ((below_regrown W p.d p.os).frozen (cell_lt c2)).trans f2
  have f3 := ((below_regrown W p.d p.os).frozen (cell_lt c3)).trans f3
  have f4 := ((below_regrown W p.d p.os).frozen (cell_lt c4)).trans f4
  have f5 := ((below_regrown W p.d p.os).frozen (cell_lt c5)).trans f5
  have f6 := ((below_regrown W p.d p.os).frozen (cell_lt c6)).trans f6
  have c0 := below_cell (below_regrown W p.d p.os) c0
  have c1 := below_cell (below_regrown W p.d p.os) c1
  have c2 := below_cell (below_regrown W p.d p.os) c2
  have c3 := below_cell (below_regrown W p.d p.os) c3
  have c4 := below_cell (below_regrown W p.d p.os) c4
  have c5 := below_cell (below_regrown W p.d p.os) c5
  have c6 := below_cell (below_regrown W p.d p.os) c6
  clear k0' k1' k0 k1
  generalize Sort.grow (redrawn W p.d) p.os = W3 at *
  go_wp2
  have hb9 : Below w.heap.size w (((((((W3.setCell ⟨w.heap.size, 0, none⟩ (.pointer (some ⟨E.a, 0, none⟩))).setCell ⟨w.heap.size, 1, none⟩ (.int .i64 (E.cf.inbox s))).setCell ⟨w.heap.size, 2, none⟩ (.func (.func 52) #[.pointer (some ⟨E.p, 0, none⟩)] #[])).setCell ⟨w.heap.size, 3, none⟩ (.func (.func 54) #[.pointer (some ⟨E.k, 0, none⟩)] #[])).setCell ⟨w.heap.size, 4, none⟩ (.pointer (some ⟨E.a, 0, none⟩))).setCell ⟨w.heap.size, 5, none⟩ (.int .i64 2)).setCell ⟨w.heap.size, 6, none⟩ (.func (.func 52) #[.pointer (some ⟨E.p, 0, none⟩)] #[])) := (((((((hbp.setCell (Nat.le_refl _) _).setCell (Nat.le_refl _) _).setCell (Nat.le_refl _) _).setCell (Nat.le_refl _) _).setCell (Nat.le_refl _) _).setCell (Nat.le_refl _) _).setCell (Nat.le_refl _) _)
  have d0 : (((((((W3.setCell ⟨w.heap.size, 0, none⟩ (.pointer (some ⟨E.a, 0, none⟩))).setCell ⟨w.heap.size, 1, none⟩ (.int .i64 (E.cf.inbox s))).setCell ⟨w.heap.size, 2, none⟩ (.func (.func 52) #[.pointer (some ⟨E.p, 0, none⟩)] #[])).setCell ⟨w.heap.size, 3, none⟩ (.func (.func 54) #[.pointer (some ⟨E.k, 0, none⟩)] #[])).setCell ⟨w.heap.size, 4, none⟩ (.pointer (some ⟨E.a, 0, none⟩))).setCell ⟨w.heap.size, 5, none⟩ (.int .i64 2)).setCell ⟨w.heap.size, 6, none⟩ (.func (.func 52) #[.pointer (some ⟨E.p, 0, none⟩)] #[])).cell? ⟨w.heap.size, 0, none⟩ = some (.pointer (some ⟨E.a, 0, none⟩)) := by go_simp
  have d1 : (((((((W3.setCell ⟨w.heap.size, 0, none⟩ (.pointer (some ⟨E.a, 0, none⟩))).setCell ⟨w.heap.size, 1, none⟩ (.int .i64 (E.cf.inbox s))).setCell ⟨w.heap.size, 2, none⟩ (.func (.func 52) #[.pointer (some ⟨E.p, 0, none⟩)] #[])).setCell ⟨w.heap.size, 3, none⟩ (.func (.func 54) #[.pointer (some ⟨E.k, 0, none⟩)] #[])).setCell ⟨w.heap.size, 4, none⟩ (.pointer (some ⟨E.a, 0, none⟩))).setCell ⟨w.heap.size, 5, none⟩ (.int .i64 2)).setCell ⟨w.heap.size, 6, none⟩ (.func (.func 52) #[.pointer (some ⟨E.p, 0, none⟩)] #[])).cell? ⟨w.heap.size, 1, none⟩ = some (.int .i64 (E.cf.inbox s)) := by go_simp
  have d2 : (((((((W3.setCell ⟨w.heap.size, 0, none⟩ (.pointer (some ⟨E.a, 0, none⟩))).setCell ⟨w.heap.size, 1, none⟩ (.int .i64 (E.cf.inbox s))).setCell ⟨w.heap.size, 2, none⟩ (.func (.func 52) #[.pointer (some ⟨E.p, 0, none⟩)] #[])).setCell ⟨w.heap.size, 3, none⟩ (.func (.func 54) #[.pointer (some ⟨E.k, 0, none⟩)] #[])).setCell ⟨w.heap.size, 4, none⟩ (.pointer (some ⟨E.a, 0, none⟩))).setCell ⟨w.heap.size, 5, none⟩ (.int .i64 2)).setCell ⟨w.heap.size, 6, none⟩ (.func (.func 52) #[.pointer (some ⟨E.p, 0, none⟩)] #[])).cell? ⟨w.heap.size, 2, none⟩ = some (.func (.func 52) #[.pointer (some ⟨E.p, 0, none⟩)] #[]) := by go_simp
  have d3 : (((((((W3.setCell ⟨w.heap.size, 0, none⟩ (.pointer (some ⟨E.a, 0, none⟩))).setCell ⟨w.heap.size, 1, none⟩ (.int .i64 (E.cf.inbox s))).setCell ⟨w.heap.size, 2, none⟩ (.func (.func 52) #[.pointer (some ⟨E.p, 0, none⟩)] #[])).setCell ⟨w.heap.size, 3, none⟩ (.func (.func 54) #[.pointer (some ⟨E.k, 0, none⟩)] #[])).setCell ⟨w.heap.size, 4, none⟩ (.pointer (some ⟨E.a, 0, none⟩))).setCell ⟨w.heap.size, 5, none⟩ (.int .i64 2)).setCell ⟨w.heap.size, 6, none⟩ (.func (.func 52) #[.pointer (some ⟨E.p, 0, none⟩)] #[])).cell? ⟨w.heap.size, 3, none⟩ = some (.func (.func 54) #[.pointer (some ⟨E.k, 0, none⟩)] #[]) := by go_simp
  have d4 : (((((((W3.setCell ⟨w.heap.size, 0, none⟩ (.pointer (some ⟨E.a, 0, none⟩))).setCell ⟨w.heap.size, 1, none⟩ (.int .i64 (E.cf.inbox s))).setCell ⟨w.heap.size, 2, none⟩ (.func (.func 52) #[.pointer (some ⟨E.p, 0, none⟩)] #[])).setCell ⟨w.heap.size, 3, none⟩ (.func (.func 54) #[.pointer (some ⟨E.k, 0, none⟩)] #[])).setCell ⟨w.heap.size, 4, none⟩ (.pointer (some ⟨E.a, 0, none⟩))).setCell ⟨w.heap.size, 5, none⟩ (.int .i64 2)).setCell ⟨w.heap.size, 6, none⟩ (.func (.func 52) #[.pointer (some ⟨E.p, 0, none⟩)] #[])).cell? ⟨w.heap.size, 4, none⟩ = some (.pointer (some ⟨E.a, 0, none⟩)) := by go_simp
  have d5 : (((((((W3.setCell ⟨w.heap.size, 0, none⟩ (.pointer (some ⟨E.a, 0, none⟩))).setCell ⟨w.heap.size, 1, none⟩ (.int .i64 (E.cf.inbox s))).setCell ⟨w.heap.size, 2, none⟩ (.func (.func 52) #[.pointer (some ⟨E.p, 0, none⟩)] #[])).setCell ⟨w.heap.size, 3, none⟩ (.func (.func 54) #[.pointer (some ⟨E.k, 0, none⟩)] #[])).setCell ⟨w.heap.size, 4, none⟩ (.pointer (some ⟨E.a, 0, none⟩))).setCell ⟨w.heap.size, 5, none⟩ (.int .i64 2)).setCell ⟨w.heap.size, 6, none⟩ (.func (.func 52) #[.pointer (some ⟨E.p, 0, none⟩)] #[])).cell? ⟨w.heap.size, 5, none⟩ = some (.int .i64 2) := by go_simp
  have d6 : (((((((W3.setCell ⟨w.heap.size, 0, none⟩ (.pointer (some ⟨E.a, 0, none⟩))).setCell ⟨w.heap.size, 1, none⟩ (.int .i64 (E.cf.inbox s))).setCell ⟨w.heap.size, 2, none⟩ (.func (.func 52) #[.pointer (some ⟨E.p, 0, none⟩)] #[])).setCell ⟨w.heap.size, 3, none⟩ (.func (.func 54) #[.pointer (some ⟨E.k, 0, none⟩)] #[])).setCell ⟨w.heap.size, 4, none⟩ (.pointer (some ⟨E.a, 0, none⟩))).setCell ⟨w.heap.size, 5, none⟩ (.int .i64 2)).setCell ⟨w.heap.size, 6, none⟩ (.func (.func 52) #[.pointer (some ⟨E.p, 0, none⟩)] #[])).cell? ⟨w.heap.size, 6, none⟩ = some (.func (.func 52) #[.pointer (some ⟨E.p, 0, none⟩)] #[]) := by go_simp
  generalize (((((((W3.setCell ⟨w.heap.size, 0, none⟩ (.pointer (some ⟨E.a, 0, none⟩))).setCell ⟨w.heap.size, 1, none⟩ (.int .i64 (E.cf.inbox s))).setCell ⟨w.heap.size, 2, none⟩ (.func (.func 52) #[.pointer (some ⟨E.p, 0, none⟩)] #[])).setCell ⟨w.heap.size, 3, none⟩ (.func (.func 54) #[.pointer (some ⟨E.k, 0, none⟩)] #[])).setCell ⟨w.heap.size, 4, none⟩ (.pointer (some ⟨E.a, 0, none⟩))).setCell ⟨w.heap.size, 5, none⟩ (.int .i64 2)).setCell ⟨w.heap.size, 6, none⟩ (.func (.func 52) #[.pointer (some ⟨E.p, 0, none⟩)] #[])) = W9 at *
  exact bodyPost_ret (v := boxVal E s) (by simp [results, Try.results29, go_sem, boxVal, linkVal, d0, d1, d2, d3, d4, d5, d6]) rfl ⟨rfl, hb9⟩
def wheelVal (E : G) (s : Int) (b : Nat) : Value := .agg #[.pointer (some ⟨E.a, 0, none⟩), .int .i64 E.cf.levels, .int .i64 E.cf.bits, .int .i64 (E.cf.over s), .func (.func 56) #[] #[.pointer (some ⟨b, 0, none⟩), .pointer (some ⟨b + 1, 0, none⟩)], .func (.func 58) #[] #[.pointer (some ⟨b, 0, none⟩), .pointer (some ⟨b + 1, 0, none⟩)], linkVal 52 E]
set_option maxHeartbeats 4000000 in
theorem core_wheel {E : G} {L : Lab} {S : St} {w : World} (hg : Good E L S w) (s : Int) :
    Calls Try.prog 31 #[.pointer (some ⟨E.k, 0, none⟩), .int .i64 s] w fun e w' => e = .returned (wheelVal E s w.heap.size) ∧ Below w.heap.size w w' ∧ w'.cell? ⟨w.heap.size, 0, none⟩ = some (.pointer (some ⟨E.k, 0, none⟩)) ∧ w'.cell? ⟨w.heap.size + 1, 0, none⟩ = some (.int .i64 s) := by
  have k0 := hg.k0
  have k1 := hg.k1
  have lk := cell_lt k0
  have hok := hg.ok
  have hb : Below w.heap.size w (((w.alloc (.cells #[.pointer (some ⟨E.k, 0, none⟩)] 26)).alloc (.cells #[.int .i64 s] 3)).alloc (.cells #[.pointer none, .int .i64 0, .int .i64 0, .int .i64 0, .nilFunc, .nilFunc, .nilFunc] 67)) := (((Below.refl _ _).alloc (Nat.le_refl _) _).alloc (by simp) _).alloc (by simp; omega) _
  have HG : Hid (∀ W', Below ((((w.alloc (.cells #[.pointer (some ⟨E.k, 0, none⟩)] 26)).alloc (.cells #[.int .i64 s] 3)).alloc (.cells #[.pointer none, .int .i64 0, .int .i64 0, .int .i64 0, .nilFunc, .nilFunc, .nilFunc] 67))).heap.size (((w.alloc (.cells #[.pointer (some ⟨E.k, 0, none⟩)] 26)).alloc (.cells #[.int .i64 s] 3)).alloc (.cells #[.pointer none, .int .i64 0, .int .i64 0, .int .i64 0, .nilFunc, .nilFunc, .nilFunc] 67)) W' → Good E L S W') := fun W' h => (hg.below hb).below h
  clear hg
  have HT : Hid (∀ W', Below ((((w.alloc (.cells #[.pointer (some ⟨E.k, 0, none⟩)] 26)).alloc (.cells #[.int .i64 s] 3)).alloc (.cells #[.pointer none, .int .i64 0, .int .i64 0, .int .i64 0, .nilFunc, .nilFunc, .nilFunc] 67))).heap.size (((w.alloc (.cells #[.pointer (some ⟨E.k, 0, none⟩)] 26)).alloc (.cells #[.int .i64 s] 3)).alloc (.cells #[.pointer none, .int .i64 0, .int .i64 0, .int .i64 0, .nilFunc, .nilFunc, .nilFunc] 67)) W' → Calls Try.prog 19 #[.pointer (some ⟨E.k, 0, none⟩)] W' fun e w' => e = .returned (.agg #[.int .i64 E.cf.workers, .int .i64 E.cf.levels, .int .i64 E.cf.bits, .int .i64 E.cf.nodes, .int .i64 E.cf.tickets, .int .i64 E.cf.slack, .int .i64 E.cf.first, .int .i64 E.cf.conns, .int .i64 E.cf.timeout, .int .i64 E.cf.base, .int .i64 E.cf.cap, .int .i64 E.cf.jitter, .int .i64 E.cf.attempts]) ∧ Below W'.heap.size W' w') := fun W' h => core_config (HG.out W' h)
  have hfl := field_levels E.cf
  have hfb := field_bits E.cf
  go_enter Try.func31, Try.ntmps31
  go_wp2
  have b0 : (((w.alloc (.cells #[.pointer (some ⟨E.k, 0, none⟩)] 26)).alloc (.cells #[.int .i64 s] 3)).alloc (.cells #[.pointer none, .int .i64 0, .int .i64 0, .int .i64 0, .nilFunc, .nilFunc, .nilFunc] 67)).cell? ⟨w.heap.size, 0, none⟩ = some (.pointer (some ⟨E.k, 0, none⟩)) := by go_simp
  have b1 : (((w.alloc (.cells #[.pointer (some ⟨E.k, 0, none⟩)] 26)).alloc (.cells #[.int .i64 s] 3)).alloc (.cells #[.pointer none, .int .i64 0, .int .i64 0, .int .i64 0, .nilFunc, .nilFunc, .nilFunc] 67)).cell? ⟨w.heap.size + 1, 0, none⟩ = some (.int .i64 s) := by go_simp
  have c0 : (((w.alloc (.cells #[.pointer (some ⟨E.k, 0, none⟩)] 26)).alloc (.cells #[.int .i64 s] 3)).alloc (.cells #[.pointer none, .int .i64 0, .int .i64 0, .int .i64 0, .nilFunc, .nilFunc, .nilFunc] 67)).cell? ⟨w.heap.size + 1 + 1, 0, none⟩ = some (.pointer none) := by go_simp
  have c1 : (((w.alloc (.cells #[.pointer (some ⟨E.k, 0, none⟩)] 26)).alloc (.cells #[.int .i64 s] 3)).alloc (.cells #[.pointer none, .int .i64 0, .int .i64 0, .int .i64 0, .nilFunc, .nilFunc, .nilFunc] 67)).cell? ⟨w.heap.size + 1 + 1, 1, none⟩ = some (.int .i64 0) := by go_simp
  have c2 : (((w.alloc (.cells #[.pointer (some ⟨E.k, 0, none⟩)] 26)).alloc (.cells #[.int .i64 s] 3)).alloc (.cells #[.pointer none, .int .i64 0, .int .i64 0, .int .i64 0, .nilFunc, .nilFunc, .nilFunc] 67)).cell? ⟨w.heap.size + 1 + 1, 2, none⟩ = some (.int .i64 0) := by go_simp
  have c3 : (((w.alloc (.cells #[.pointer (some ⟨E.k, 0, none⟩)] 26)).alloc (.cells #[.int .i64 s] 3)).alloc (.cells #[.pointer none, .int .i64 0, .int .i64 0, .int .i64 0, .nilFunc, .nilFunc, .nilFunc] 67)).cell? ⟨w.heap.size + 1 + 1, 3, none⟩ = some (.int .i64 0) := by go_simp
  have c4 : (((w.alloc (.cells #[.pointer (some ⟨E.k, 0, none⟩)] 26)).alloc (.cells #[.int .i64 s] 3)).alloc (.cells #[.pointer none, .int .i64 0, .int .i64 0, .int .i64 0, .nilFunc, .nilFunc, .nilFunc] 67)).cell? ⟨w.heap.size + 1 + 1, 4, none⟩ = some (.nilFunc) := by go_simp
  have c5 : (((w.alloc (.cells #[.pointer (some ⟨E.k, 0, none⟩)] 26)).alloc (.cells #[.int .i64 s] 3)).alloc (.cells #[.pointer none, .int .i64 0, .int .i64 0, .int .i64 0, .nilFunc, .nilFunc, .nilFunc] 67)).cell? ⟨w.heap.size + 1 + 1, 5, none⟩ = some (.nilFunc) := by go_simp
  have c6 : (((w.alloc (.cells #[.pointer (some ⟨E.k, 0, none⟩)] 26)).alloc (.cells #[.int .i64 s] 3)).alloc (.cells #[.pointer none, .int .i64 0, .int .i64 0, .int .i64 0, .nilFunc, .nilFunc, .nilFunc] 67)).cell? ⟨w.heap.size + 1 + 1, 6, none⟩ = some (.nilFunc) := by go_simp
  have f0 : (((w.alloc (.cells #[.pointer (some ⟨E.k, 0, none⟩)] 26)).alloc (.cells #[.int .i64 s] 3)).alloc (.cells #[.pointer none, .int .i64 0, .int .i64 0, .int .i64 0, .nilFunc, .nilFunc, .nilFunc] 67)).frozen? ⟨w.heap.size + 1 + 1, 0, none⟩ = false := by go_simp
  have f1 : (((w.alloc (.cells #[.pointer (some ⟨E.k, 0, none⟩)] 26)).alloc (.cells #[.int .i64 s] 3)).alloc (.cells #[.pointer none, .int .i64 0, .int .i64 0, .int .i64 0, .nilFunc, .nilFunc, .nilFunc] 67)).frozen? ⟨w.heap.size + 1 + 1, 1, none⟩ = false := by go_simp
  have f2 : (((w.alloc (.cells #[.pointer (some ⟨E.k, 0, none⟩)] 26)).alloc (.cells #[.int .i64 s] 3)).alloc (.cells #[.pointer none, .int .i64 0, .int .i64 0, .int .i64 0, .nilFunc, .nilFunc, .nilFunc] 67)).frozen? ⟨w.heap.size + 1 + 1, 2, none⟩ = false := by go_simp
  have f3 : (((w.alloc (.cells #[.pointer (some ⟨E.k, 0, none⟩)] 26)).alloc (.cells #[.int .i64 s] 3)).alloc (.cells #[.pointer none, .int .i64 0, .int .i64 0, .int .i64 0, .nilFunc, .nilFunc, .nilFunc] 67)).frozen? ⟨w.heap.size + 1 + 1, 3, none⟩ = false := by go_simp
  have f4 : (((w.alloc (.cells #[.pointer (some ⟨E.k, 0, none⟩)] 26)).alloc (.cells #[.int .i64 s] 3)).alloc (.cells #[.pointer none, .int .i64 0, .int .i64 0, .int .i64 0, .nilFunc, .nilFunc, .nilFunc] 67)).frozen? ⟨w.heap.size + 1 + 1, 4, none⟩ = false := by go_simp
  have f5 : (((w.alloc (.cells #[.pointer (some ⟨E.k, 0, none⟩)] 26)).alloc (.cells #[.int .i64 s] 3)).alloc (.cells #[.pointer none, .int .i64 0, .int .i64 0, .int .i64 0, .nilFunc, .nilFunc, .nilFunc] 67)).frozen? ⟨w.heap.size + 1 + 1, 5, none⟩ = false := by go_simp
  have f6 : (((w.alloc (.cells #[.pointer (some ⟨E.k, 0, none⟩)] 26)).alloc (.cells #[.int .i64 s] 3)).alloc (.cells #[.pointer none, .int .i64 0, .int .i64 0, .int .i64 0, .nilFunc, .nilFunc, .nilFunc] 67)).frozen? ⟨w.heap.size + 1 + 1, 6, none⟩ = false := by go_simp
  replace k0 := below_cell hb k0
  replace k1 := below_cell hb k1
  generalize (((w.alloc (.cells #[.pointer (some ⟨E.k, 0, none⟩)] 26)).alloc (.cells #[.int .i64 s] 3)).alloc (.cells #[.pointer none, .int .i64 0, .int .i64 0, .int .i64 0, .nilFunc, .nilFunc, .nilFunc] 67)) = W at *
  have k0' : ∀ d os, (Sort.grow (redrawn W d) os).cell? ⟨E.k, 0, none⟩ = some (.pointer (some ⟨E.p, 0, none⟩)) := fun d os => cell_regrown k0 d os
  have k1' : ∀ d os, (Sort.grow (redrawn W d) os).cell? ⟨E.k, 1, none⟩ = some (.pointer (some ⟨E.a, 0, none⟩)) := fun d os => cell_regrown k1 d os
  have b0' : ∀ d os, (Sort.grow (redrawn W d) os).cell? ⟨w.heap.size, 0, none⟩ = some (.pointer (some ⟨E.k, 0, none⟩)) := fun d os => cell_regrown b0 d os
  have b1' : ∀ d os, (Sort.grow (redrawn W d) os).cell? ⟨w.heap.size + 1, 0, none⟩ = some (.int .i64 s) := fun d os => cell_regrown b1 d os
  refine wp_region_below_tail 24 (by kernel_rfl) (by kernel_rfl) ?_
  simp only [List.take_succ_cons, List.take_zero, List.drop_succ_cons, List.drop_zero]
  repeat
    (refine wpQuiet_step (fun K hK => ?_)
     go_simp
     first
       | (refine hK _ ?_; clear hK K)
       | (apply Exists.intro
          refine ⟨fun p => ?_, hK _ ?_⟩
          first
            | exact Calls.regrown_of ((plan_Over hok E.p s _ (HG.out _ (below_regrown W p.d p.os)).pl).mono (fun _ _ h => h.below))
            | exact Calls.regrown_of (HT.out _ (below_regrown W p.d p.os))
          clear hK K))
  refine wpQuiet_nil ?_
  intro w' hw'
  obtain ⟨p, rfl⟩ := hw'
  have hbp := hb.trans ((below_regrown W p.d p.os).mono hb.size)
  have b0 := below_cell (below_regrown W p.d p.os) b0
  have b1 := below_cell (below_regrown W p.d p.os) b1
  have f0 := ((below_regrown W p.d p.os).frozen (cell_lt c0)).trans f0
  have f1 := ((below_regrown W p.d p.os).frozen (cell_lt c1)).trans f1
  have f2 := ((below_regrown W p.d p.os).frozen (cell_lt c2)).trans f2
  have f3 := ((below_regrown W p.d p.os).frozen (cell_lt c3)).trans f3
  have f4 := ((below_regrown W p.d p.os).frozen (cell_lt c4)).trans f4
  have f5 := ((below_regrown W p.d p.os).frozen (cell_lt c5)).trans f5
  have f6 := ((below_regrown W p.d p.os).frozen (cell_lt c6)).trans f6
  have c0 := below_cell (below_regrown W p.d p.os) c0
  have c1 := below_cell (below_regrown W p.d p.os) c1
  have c2 := below_cell (below_regrown W p.d p.os) c2
  have c3 := below_cell (below_regrown W p.d p.os) c3
  have c4 := below_cell (below_regrown W p.d p.os) c4
  have c5 := below_cell (below_regrown W p.d p.os) c5
  have c6 := below_cell (below_regrown W p.d p.os) c6
  clear k0' k1' k0 k1 b0' b1' hfl hfb
  generalize Sort.grow (redrawn W p.d) p.os = W3 at *
  go_wp2
  have hb9 : Below w.heap.size w (((((((W3.setCell ⟨w.heap.size + 1 + 1, 0, none⟩ (.pointer (some ⟨E.a, 0, none⟩))).setCell ⟨w.heap.size + 1 + 1, 1, none⟩ (.int .i64 E.cf.levels)).setCell ⟨w.heap.size + 1 + 1, 2, none⟩ (.int .i64 E.cf.bits)).setCell ⟨w.heap.size + 1 + 1, 3, none⟩ (.int .i64 (E.cf.over s))).setCell ⟨w.heap.size + 1 + 1, 4, none⟩ (.func (.func 56) #[] #[.pointer (some ⟨w.heap.size, 0, none⟩), .pointer (some ⟨w.heap.size + 1, 0, none⟩)])).setCell ⟨w.heap.size + 1 + 1, 5, none⟩ (.func (.func 58) #[] #[.pointer (some ⟨w.heap.size, 0, none⟩), .pointer (some ⟨w.heap.size + 1, 0, none⟩)])).setCell ⟨w.heap.size + 1 + 1, 6, none⟩ (.func (.func 52) #[.pointer (some ⟨E.p, 0, none⟩)] #[])) := (((((((hbp.setCell (by show w.heap.size ≤ w.heap.size + 1 + 1; omega) _).setCell (by show w.heap.size ≤ w.heap.size + 1 + 1; omega) _).setCell (by show w.heap.size ≤ w.heap.size + 1 + 1; omega) _).setCell (by show w.heap.size ≤ w.heap.size + 1 + 1; omega) _).setCell (by show w.heap.size ≤ w.heap.size + 1 + 1; omega) _).setCell (by show w.heap.size ≤ w.heap.size + 1 + 1; omega) _).setCell (by show w.heap.size ≤ w.heap.size + 1 + 1; omega) _)
  have d0 : (((((((W3.setCell ⟨w.heap.size + 1 + 1, 0, none⟩ (.pointer (some ⟨E.a, 0, none⟩))).setCell ⟨w.heap.size + 1 + 1, 1, none⟩ (.int .i64 E.cf.levels)).setCell ⟨w.heap.size + 1 + 1, 2, none⟩ (.int .i64 E.cf.bits)).setCell ⟨w.heap.size + 1 + 1, 3, none⟩ (.int .i64 (E.cf.over s))).setCell ⟨w.heap.size + 1 + 1, 4, none⟩ (.func (.func 56) #[] #[.pointer (some ⟨w.heap.size, 0, none⟩), .pointer (some ⟨w.heap.size + 1, 0, none⟩)])).setCell ⟨w.heap.size + 1 + 1, 5, none⟩ (.func (.func 58) #[] #[.pointer (some ⟨w.heap.size, 0, none⟩), .pointer (some ⟨w.heap.size + 1, 0, none⟩)])).setCell ⟨w.heap.size + 1 + 1, 6, none⟩ (.func (.func 52) #[.pointer (some ⟨E.p, 0, none⟩)] #[])).cell? ⟨w.heap.size + 1 + 1, 0, none⟩ = some (.pointer (some ⟨E.a, 0, none⟩)) := by go_simp
  have d1 : (((((((W3.setCell ⟨w.heap.size + 1 + 1, 0, none⟩ (.pointer (some ⟨E.a, 0, none⟩))).setCell ⟨w.heap.size + 1 + 1, 1, none⟩ (.int .i64 E.cf.levels)).setCell ⟨w.heap.size + 1 + 1, 2, none⟩ (.int .i64 E.cf.bits)).setCell ⟨w.heap.size + 1 + 1, 3, none⟩ (.int .i64 (E.cf.over s))).setCell ⟨w.heap.size + 1 + 1, 4, none⟩ (.func (.func 56) #[] #[.pointer (some ⟨w.heap.size, 0, none⟩), .pointer (some ⟨w.heap.size + 1, 0, none⟩)])).setCell ⟨w.heap.size + 1 + 1, 5, none⟩ (.func (.func 58) #[] #[.pointer (some ⟨w.heap.size, 0, none⟩), .pointer (some ⟨w.heap.size + 1, 0, none⟩)])).setCell ⟨w.heap.size + 1 + 1, 6, none⟩ (.func (.func 52) #[.pointer (some ⟨E.p, 0, none⟩)] #[])).cell? ⟨w.heap.size + 1 + 1, 1, none⟩ = some (.int .i64 E.cf.levels) := by go_simp
  have d2 : (((((((W3.setCell ⟨w.heap.size + 1 + 1, 0, none⟩ (.pointer (some ⟨E.a, 0, none⟩))).setCell ⟨w.heap.size + 1 + 1, 1, none⟩ (.int .i64 E.cf.levels)).setCell ⟨w.heap.size + 1 + 1, 2, none⟩ (.int .i64 E.cf.bits)).setCell ⟨w.heap.size + 1 + 1, 3, none⟩ (.int .i64 (E.cf.over s))).setCell ⟨w.heap.size + 1 + 1, 4, none⟩ (.func (.func 56) #[] #[.pointer (some ⟨w.heap.size, 0, none⟩), .pointer (some ⟨w.heap.size + 1, 0, none⟩)])).setCell ⟨w.heap.size + 1 + 1, 5, none⟩ (.func (.func 58) #[] #[.pointer (some ⟨w.heap.size, 0, none⟩), .pointer (some ⟨w.heap.size + 1, 0, none⟩)])).setCell ⟨w.heap.size + 1 + 1, 6, none⟩ (.func (.func 52) #[.pointer (some ⟨E.p, 0, none⟩)] #[])).cell? ⟨w.heap.size + 1 + 1, 2, none⟩ = some (.int .i64 E.cf.bits) := by go_simp
  have d3 : (((((((W3.setCell ⟨w.heap.size + 1 + 1, 0, none⟩ (.pointer (some ⟨E.a, 0, none⟩))).setCell ⟨w.heap.size + 1 + 1, 1, none⟩ (.int .i64 E.cf.levels)).setCell ⟨w.heap.size + 1 + 1, 2, none⟩ (.int .i64 E.cf.bits)).setCell ⟨w.heap.size + 1 + 1, 3, none⟩ (.int .i64 (E.cf.over s))).setCell ⟨w.heap.size + 1 + 1, 4, none⟩ (.func (.func 56) #[] #[.pointer (some ⟨w.heap.size, 0, none⟩), .pointer (some ⟨w.heap.size + 1, 0, none⟩)])).setCell ⟨w.heap.size + 1 + 1, 5, none⟩ (.func (.func 58) #[] #[.pointer (some ⟨w.heap.size, 0, none⟩), .pointer (some ⟨w.heap.size + 1, 0, none⟩)])).setCell ⟨w.heap.size + 1 + 1, 6, none⟩ (.func (.func 52) #[.pointer (some ⟨E.p, 0, none⟩)] #[])).cell? ⟨w.heap.size + 1 + 1, 3, none⟩ = some (.int .i64 (E.cf.over s)) := by go_simp
  have d4 : (((((((W3.setCell ⟨w.heap.size + 1 + 1, 0, none⟩ (.pointer (some ⟨E.a, 0, none⟩))).setCell ⟨w.heap.size + 1 + 1, 1, none⟩ (.int .i64 E.cf.levels)).setCell ⟨w.heap.size + 1 + 1, 2, none⟩ (.int .i64 E.cf.bits)).setCell ⟨w.heap.size + 1 + 1, 3, none⟩ (.int .i64 (E.cf.over s))).setCell ⟨w.heap.size + 1 + 1, 4, none⟩ (.func (.func 56) #[] #[.pointer (some ⟨w.heap.size, 0, none⟩), .pointer (some ⟨w.heap.size + 1, 0, none⟩)])).setCell ⟨w.heap.size + 1 + 1, 5, none⟩ (.func (.func 58) #[] #[.pointer (some ⟨w.heap.size, 0, none⟩), .pointer (some ⟨w.heap.size + 1, 0, none⟩)])).setCell ⟨w.heap.size + 1 + 1, 6, none⟩ (.func (.func 52) #[.pointer (some ⟨E.p, 0, none⟩)] #[])).cell? ⟨w.heap.size + 1 + 1, 4, none⟩ = some (.func (.func 56) #[] #[.pointer (some ⟨w.heap.size, 0, none⟩), .pointer (some ⟨w.heap.size + 1, 0, none⟩)]) := by go_simp
  have d5 : (((((((W3.setCell ⟨w.heap.size + 1 + 1, 0, none⟩ (.pointer (some ⟨E.a, 0, none⟩))).setCell ⟨w.heap.size + 1 + 1, 1, none⟩ (.int .i64 E.cf.levels)).setCell ⟨w.heap.size + 1 + 1, 2, none⟩ (.int .i64 E.cf.bits)).setCell ⟨w.heap.size + 1 + 1, 3, none⟩ (.int .i64 (E.cf.over s))).setCell ⟨w.heap.size + 1 + 1, 4, none⟩ (.func (.func 56) #[] #[.pointer (some ⟨w.heap.size, 0, none⟩), .pointer (some ⟨w.heap.size + 1, 0, none⟩)])).setCell ⟨w.heap.size + 1 + 1, 5, none⟩ (.func (.func 58) #[] #[.pointer (some ⟨w.heap.size, 0, none⟩), .pointer (some ⟨w.heap.size + 1, 0, none⟩)])).setCell ⟨w.heap.size + 1 + 1, 6, none⟩ (.func (.func 52) #[.pointer (some ⟨E.p, 0, none⟩)] #[])).cell? ⟨w.heap.size + 1 + 1, 5, none⟩ = some (.func (.func 58) #[] #[.pointer (some ⟨w.heap.size, 0, none⟩), .pointer (some ⟨w.heap.size + 1, 0, none⟩)]) := by go_simp
  have d6 : (((((((W3.setCell ⟨w.heap.size + 1 + 1, 0, none⟩ (.pointer (some ⟨E.a, 0, none⟩))).setCell ⟨w.heap.size + 1 + 1, 1, none⟩ (.int .i64 E.cf.levels)).setCell ⟨w.heap.size + 1 + 1, 2, none⟩ (.int .i64 E.cf.bits)).setCell ⟨w.heap.size + 1 + 1, 3, none⟩ (.int .i64 (E.cf.over s))).setCell ⟨w.heap.size + 1 + 1, 4, none⟩ (.func (.func 56) #[] #[.pointer (some ⟨w.heap.size, 0, none⟩), .pointer (some ⟨w.heap.size + 1, 0, none⟩)])).setCell ⟨w.heap.size + 1 + 1, 5, none⟩ (.func (.func 58) #[] #[.pointer (some ⟨w.heap.size, 0, none⟩), .pointer (some ⟨w.heap.size + 1, 0, none⟩)])).setCell ⟨w.heap.size + 1 + 1, 6, none⟩ (.func (.func 52) #[.pointer (some ⟨E.p, 0, none⟩)] #[])).cell? ⟨w.heap.size + 1 + 1, 6, none⟩ = some (.func (.func 52) #[.pointer (some ⟨E.p, 0, none⟩)] #[]) := by go_simp
  have e0 : (((((((W3.setCell ⟨w.heap.size + 1 + 1, 0, none⟩ (.pointer (some ⟨E.a, 0, none⟩))).setCell ⟨w.heap.size + 1 + 1, 1, none⟩ (.int .i64 E.cf.levels)).setCell ⟨w.heap.size + 1 + 1, 2, none⟩ (.int .i64 E.cf.bits)).setCell ⟨w.heap.size + 1 + 1, 3, none⟩ (.int .i64 (E.cf.over s))).setCell ⟨w.heap.size + 1 + 1, 4, none⟩ (.func (.func 56) #[] #[.pointer (some ⟨w.heap.size, 0, none⟩), .pointer (some ⟨w.heap.size + 1, 0, none⟩)])).setCell ⟨w.heap.size + 1 + 1, 5, none⟩ (.func (.func 58) #[] #[.pointer (some ⟨w.heap.size, 0, none⟩), .pointer (some ⟨w.heap.size + 1, 0, none⟩)])).setCell ⟨w.heap.size + 1 + 1, 6, none⟩ (.func (.func 52) #[.pointer (some ⟨E.p, 0, none⟩)] #[])).cell? ⟨w.heap.size, 0, none⟩ = some (.pointer (some ⟨E.k, 0, none⟩)) := by go_simp
  have e1 : (((((((W3.setCell ⟨w.heap.size + 1 + 1, 0, none⟩ (.pointer (some ⟨E.a, 0, none⟩))).setCell ⟨w.heap.size + 1 + 1, 1, none⟩ (.int .i64 E.cf.levels)).setCell ⟨w.heap.size + 1 + 1, 2, none⟩ (.int .i64 E.cf.bits)).setCell ⟨w.heap.size + 1 + 1, 3, none⟩ (.int .i64 (E.cf.over s))).setCell ⟨w.heap.size + 1 + 1, 4, none⟩ (.func (.func 56) #[] #[.pointer (some ⟨w.heap.size, 0, none⟩), .pointer (some ⟨w.heap.size + 1, 0, none⟩)])).setCell ⟨w.heap.size + 1 + 1, 5, none⟩ (.func (.func 58) #[] #[.pointer (some ⟨w.heap.size, 0, none⟩), .pointer (some ⟨w.heap.size + 1, 0, none⟩)])).setCell ⟨w.heap.size + 1 + 1, 6, none⟩ (.func (.func 52) #[.pointer (some ⟨E.p, 0, none⟩)] #[])).cell? ⟨w.heap.size + 1, 0, none⟩ = some (.int .i64 s) := by go_simp
  generalize (((((((W3.setCell ⟨w.heap.size + 1 + 1, 0, none⟩ (.pointer (some ⟨E.a, 0, none⟩))).setCell ⟨w.heap.size + 1 + 1, 1, none⟩ (.int .i64 E.cf.levels)).setCell ⟨w.heap.size + 1 + 1, 2, none⟩ (.int .i64 E.cf.bits)).setCell ⟨w.heap.size + 1 + 1, 3, none⟩ (.int .i64 (E.cf.over s))).setCell ⟨w.heap.size + 1 + 1, 4, none⟩ (.func (.func 56) #[] #[.pointer (some ⟨w.heap.size, 0, none⟩), .pointer (some ⟨w.heap.size + 1, 0, none⟩)])).setCell ⟨w.heap.size + 1 + 1, 5, none⟩ (.func (.func 58) #[] #[.pointer (some ⟨w.heap.size, 0, none⟩), .pointer (some ⟨w.heap.size + 1, 0, none⟩)])).setCell ⟨w.heap.size + 1 + 1, 6, none⟩ (.func (.func 52) #[.pointer (some ⟨E.p, 0, none⟩)] #[])) = W9 at *
  exact bodyPost_ret (v := wheelVal E s w.heap.size) (by simp [results, Try.results31, go_sem, wheelVal, linkVal, d0, d1, d2, d3, d4, d5, d6]) rfl ⟨rfl, hb9, e0, e1⟩
end Go.Proofs.Ytlbjjooiiikmjaa

