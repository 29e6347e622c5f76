/- A new task. -/
import Derived.Test.YtlbjjooiiikmjaaGreatU
import Derived.Laws.EntriesVeiled
namespace Go.Proofs.YtlbjjooiiikmjaaGreat
open Go.RowKit
set_option maxRecDepth 100000
set_option linter.unusedVariables false

set_option maxHeartbeats 400000 in
theorem step_New (f : FuncId) (rc cap : Array Value) (w : World) :
    Calls Tryz.prog 46 #[.func (.func f) rc cap] w fun e w' => e = .returned (.pointer (some ⟨w.heap.size, 0, none⟩)) ∧ w' = w.alloc (.cells #[.func (.func f) rc cap, .int .i64 0] 131) := by
  go_enter Tryz.func46, Tryz.ntmps46
  go_wp2
  go_ret
  exact ⟨rfl, rfl⟩

/-- A new task's record is its own. -/
theorem Good.task {E : G} {L : Lab} {S : St} {w : World} (h : Good E L S w) (t : Nat) (v : Value) (ty : TypeId) :
    Good E (fun b => if b = w.heap.size then 5000 + t else L b) S (w.alloc (.cells #[v, .int .i64 0] ty)) ∧
      TaskAt (w.alloc (.cells #[v, .int .i64 0] ty)) (fun b => if b = w.heap.size then 5000 + t else L b) t w.heap.size v 0 ∧
      Ext t L w (fun b => if b = w.heap.size then 5000 + t else L b) (w.alloc (.cells #[v, .int .i64 0] ty)) := by
  have hb : Below w.heap.size w (w.alloc (.cells #[v, .int .i64 0] ty)) := (Below.refl _ _).alloc (Nat.le_refl _) _
  have hg := h.below hb
  have hL : ∀ b, b < w.heap.size → (if b = w.heap.size then 5000 + t else L b) = L b := fun b hb => by rw [if_neg (by omega)]
  have hne : ∀ b, L b ≠ 0 → b ≠ w.heap.size := fun b hb e => hb (e ▸ h.new _ (Nat.le_refl _))
  refine ⟨⟨hg.ok, hg.k0, hg.k1, hg.pl, hg.ar, ?_, ?_, ?_, ?_, ?_, ?_, ?_⟩, ⟨?_, ?_, ?_, ?_, ?_⟩, ⟨hb.os, hb.tape, hb.output, hb.size, fun b hb' _ => hb.block b hb', hL⟩⟩
  · exact h.lg.below (hb.block _ (cell_lt h.k0)) (fun g hg hlt => ⟨hb.block g hlt, hL g hlt⟩)
  · intro b v' hv
    obtain ⟨r1, r2, r3⟩ := hg.rg b v' hv
    refine ⟨r1, r2, ?_⟩
    rw [if_neg (hne b (by omega))]; exact r3
  · rw [if_neg (hne _ (by have := h.lk; omega))]; exact h.lk
  · rw [if_neg (by have := cell_lt h.pl.c0; dsimp only at this; omega)]; exact h.lp
  · rw [if_neg (hne _ (by have := h.la; omega))]; exact h.la
  · rw [if_neg (hne _ (by have := h.lc; omega))]; exact h.lc
  · intro b hb'
    rw [World.size_alloc] at hb'
    rw [if_neg (by omega)]; exact h.new b (by omega)
  · simp
  · simp
  · simp
  · simp
  · simp
end Go.Proofs.YtlbjjooiiikmjaaGreat

