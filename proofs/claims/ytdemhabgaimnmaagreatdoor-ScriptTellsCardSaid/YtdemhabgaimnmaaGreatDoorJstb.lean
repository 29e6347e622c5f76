/- Events: a Tick is right. -/
import Derived.Test.YtdemhabgaimnmaaGreatDoorJsta
import Derived.Laws.EntriesVeiled
import Derived.Deep.RegionHeld3
import Derived.Deep.RegionWith
namespace Go.Proofs.YtdemhabgaimnmaaGreatDoor
open Go.RowKit
set_option maxRecDepth 100000
set_option linter.unusedVariables false

set_option maxHeartbeats 1000000 in
theorem tick_fields (T : Int) (w : World) :
    Calls Tryz.prog 52 #[.agg #[.int .i64 1, .int .i64 0, .int .i64 0, .int .i64 0, .int .i64 0, .int .i64 0, .int .i64 0, .int .i64 T, .int .i64 0, .int .i64 0, .bool false, .int .i64 0]] w fun e w' =>
      e = .returned (.tuple #[.int .i64 4, .bool true]) ∧ Below w.heap.size w w' := by
  go_enter Tryz.func52, Tryz.ntmps52
  go_wp2
  go_quiet (fail)
  go_wp2
  go_ret2
  exact ⟨rfl, ((Below.refl _ _).alloc (Nat.le_refl _) _).trans ⟨rfl, rfl, rfl, Nat.le_refl _, fun _ _ => rfl⟩⟩
set_option maxHeartbeats 1000000 in
theorem tick_counted (T : Int) (h : 0 ≤ T) (w : World) :
    Calls Tryz.prog 69 #[.agg #[.int .i64 1, .int .i64 0, .int .i64 0, .int .i64 0, .int .i64 0, .int .i64 0, .int .i64 0, .int .i64 T, .int .i64 0, .int .i64 0, .bool false, .int .i64 0]] w fun e w' =>
      e = .returned (.bool true) ∧ Below w.heap.size w w' := by
  have hm : ∀ w : World, Sem.run Tryz.prog (Builtin.min_ #[3, 3, 3, 3] 3 #[.int .i64 0, .int .i64 0, .int .i64 0, .int .i64 0]) w = .ok (.int .i64 0) w := fun w => by kernel_rfl
  go_enter Tryz.func69, Tryz.ntmps69
  go_wp2
  go_ret
  exact ⟨by simp, (Below.refl _ _).alloc (Nat.le_refl _) _⟩
set_option maxHeartbeats 1000000 in
theorem tick_bare (T : Int) (w : World) :
    Calls Tryz.prog 70 #[.agg #[.int .i64 1, .int .i64 0, .int .i64 0, .int .i64 0, .int .i64 0, .int .i64 0, .int .i64 0, .int .i64 T, .int .i64 0, .int .i64 0, .bool false, .int .i64 0], .int .i64 4] w fun e w' =>
      e = .returned (.agg #[.int .i64 1, .int .i64 0, .int .i64 0, .int .i64 0, .int .i64 0, .int .i64 0, .int .i64 0, .int .i64 0, .int .i64 0, .int .i64 0, .bool false, .int .i64 0]) ∧ Below w.heap.size w w' := by
  go_enter Tryz.func70, Tryz.ntmps70
  go_wp2
  refine wp_loop_rounds 4 ?_
  rw [rounds_succ]
  go_wp2
  rw [rounds_succ]
  go_wp2
  rw [rounds_succ]
  go_wp2
  rw [rounds_succ]
  go_wp2
  refine bodyPost_ret (v := .agg #[.int .i64 1, .int .i64 0, .int .i64 0, .int .i64 0, .int .i64 0, .int .i64 0, .int .i64 0, .int .i64 0, .int .i64 0, .int .i64 0, .bool false, .int .i64 0]) (by simp [results, Tryz.results70, go_sem]) rfl ⟨rfl, ?_⟩
  repeat (first | exact Below.refl _ _ | refine Below.setCell ?_ (by simp) _ | refine Below.alloc ?_ (by simp; omega) _ | refine Below.alloc ?_ (by simp) _ | refine Below.drew ?_)
set_option maxHeartbeats 4000000 in
theorem tick_right (T : Int) (h : 0 ≤ T) (w : World) :
    Calls Tryz.prog 51 #[.agg #[.int .i64 1, .int .i64 0, .int .i64 0, .int .i64 0, .int .i64 0, .int .i64 0, .int .i64 0, .int .i64 T, .int .i64 0, .int .i64 0, .bool false, .int .i64 0]] w fun e w' => e = .returned (.bool true) ∧ Below w.heap.size w w' := by
  have heq : ∀ w : World, Sem.run Tryz.prog (binOp BinOp.eql 85 (.agg #[.int .i64 1, .int .i64 0, .int .i64 0, .int .i64 0, .int .i64 0, .int .i64 0, .int .i64 0, .int .i64 0, .int .i64 0, .int .i64 0, .bool false, .int .i64 0]) (.agg #[.int .i64 1, .int .i64 0, .int .i64 0, .int .i64 0, .int .i64 0, .int .i64 0, .int .i64 0, .int .i64 0, .int .i64 0, .int .i64 0, .bool false, .int .i64 0])) w = .ok (.bool true) w := fun w => by kernel_rfl
  have e0 : (w.alloc (.cells #[.int .i64 1, .int .i64 0, .int .i64 0, .int .i64 0, .int .i64 0, .int .i64 0, .int .i64 0, .int .i64 T, .int .i64 0, .int .i64 0, .bool false, .int .i64 0] 85)).cell? ⟨w.heap.size, 0, none⟩ = some (.int .i64 1) := by go_simp
  have e1 : (w.alloc (.cells #[.int .i64 1, .int .i64 0, .int .i64 0, .int .i64 0, .int .i64 0, .int .i64 0, .int .i64 0, .int .i64 T, .int .i64 0, .int .i64 0, .bool false, .int .i64 0] 85)).cell? ⟨w.heap.size, 1, none⟩ = some (.int .i64 0) := by go_simp
  have e2 : (w.alloc (.cells #[.int .i64 1, .int .i64 0, .int .i64 0, .int .i64 0, .int .i64 0, .int .i64 0, .int .i64 0, .int .i64 T, .int .i64 0, .int .i64 0, .bool false, .int .i64 0] 85)).cell? ⟨w.heap.size, 2, none⟩ = some (.int .i64 0) := by go_simp
  have e3 : (w.alloc (.cells #[.int .i64 1, .int .i64 0, .int .i64 0, .int .i64 0, .int .i64 0, .int .i64 0, .int .i64 0, .int .i64 T, .int .i64 0, .int .i64 0, .bool false, .int .i64 0] 85)).cell? ⟨w.heap.size, 3, none⟩ = some (.int .i64 0) := by go_simp
  have e4 : (w.alloc (.cells #[.int .i64 1, .int .i64 0, .int .i64 0, .int .i64 0, .int .i64 0, .int .i64 0, .int .i64 0, .int .i64 T, .int .i64 0, .int .i64 0, .bool false, .int .i64 0] 85)).cell? ⟨w.heap.size, 4, none⟩ = some (.int .i64 0) := by go_simp
  have e5 : (w.alloc (.cells #[.int .i64 1, .int .i64 0, .int .i64 0, .int .i64 0, .int .i64 0, .int .i64 0, .int .i64 0, .int .i64 T, .int .i64 0, .int .i64 0, .bool false, .int .i64 0] 85)).cell? ⟨w.heap.size, 5, none⟩ = some (.int .i64 0) := by go_simp
  have e6 : (w.alloc (.cells #[.int .i64 1, .int .i64 0, .int .i64 0, .int .i64 0, .int .i64 0, .int .i64 0, .int .i64 0, .int .i64 T, .int .i64 0, .int .i64 0, .bool false, .int .i64 0] 85)).cell? ⟨w.heap.size, 6, none⟩ = some (.int .i64 0) := by go_simp
  have e7 : (w.alloc (.cells #[.int .i64 1, .int .i64 0, .int .i64 0, .int .i64 0, .int .i64 0, .int .i64 0, .int .i64 0, .int .i64 T, .int .i64 0, .int .i64 0, .bool false, .int .i64 0] 85)).cell? ⟨w.heap.size, 7, none⟩ = some (.int .i64 T) := by go_simp
  have e8 : (w.alloc (.cells #[.int .i64 1, .int .i64 0, .int .i64 0, .int .i64 0, .int .i64 0, .int .i64 0, .int .i64 0, .int .i64 T, .int .i64 0, .int .i64 0, .bool false, .int .i64 0] 85)).cell? ⟨w.heap.size, 8, none⟩ = some (.int .i64 0) := by go_simp
  have e9 : (w.alloc (.cells #[.int .i64 1, .int .i64 0, .int .i64 0, .int .i64 0, .int .i64 0, .int .i64 0, .int .i64 0, .int .i64 T, .int .i64 0, .int .i64 0, .bool false, .int .i64 0] 85)).cell? ⟨w.heap.size, 9, none⟩ = some (.int .i64 0) := by go_simp
  have e10 : (w.alloc (.cells #[.int .i64 1, .int .i64 0, .int .i64 0, .int .i64 0, .int .i64 0, .int .i64 0, .int .i64 0, .int .i64 T, .int .i64 0, .int .i64 0, .bool false, .int .i64 0] 85)).cell? ⟨w.heap.size, 10, none⟩ = some (.bool false) := by go_simp
  have e11 : (w.alloc (.cells #[.int .i64 1, .int .i64 0, .int .i64 0, .int .i64 0, .int .i64 0, .int .i64 0, .int .i64 0, .int .i64 T, .int .i64 0, .int .i64 0, .bool false, .int .i64 0] 85)).cell? ⟨w.heap.size, 11, none⟩ = some (.int .i64 0) := by go_simp
  have hB : Below w.heap.size w (w.alloc (.cells #[.int .i64 1, .int .i64 0, .int .i64 0, .int .i64 0, .int .i64 0, .int .i64 0, .int .i64 0, .int .i64 T, .int .i64 0, .int .i64 0, .bool false, .int .i64 0] 85)) := (Below.refl _ _).alloc (Nat.le_refl _) _
  have HF := Go.Lib.hid (tick_fields T)
  have HC := Go.Lib.hid (tick_counted T h)
  have HBR := Go.Lib.hid (tick_bare T)
  go_enter Tryz.func51, Tryz.ntmps51
  go_wp2_with fail
  generalize (w.alloc (.cells #[.int .i64 1, .int .i64 0, .int .i64 0, .int .i64 0, .int .i64 0, .int .i64 0, .int .i64 0, .int .i64 T, .int .i64 0, .int .i64 0, .bool false, .int .i64 0] 85)) = W at *
  generalize hgb : w.heap.size = b at *
  replace hgb := Go.Lib.hid hgb
  refine (HF.out _).mono ?_
  rintro e w1 ⟨rfl, hb⟩
  have e0 := below_cell hb e0
  have e1 := below_cell hb e1
  have e2 := below_cell hb e2
  have e3 := below_cell hb e3
  have e4 := below_cell hb e4
  have e5 := below_cell hb e5
  have e6 := below_cell hb e6
  have e7 := below_cell hb e7
  have e8 := below_cell hb e8
  have e9 := below_cell hb e9
  have e10 := below_cell hb e10
  have e11 := below_cell hb e11
  have hB1 := hB.trans (hb.mono (by rw [← hgb.out]; exact hB.size))
  clear hb hB
  go_wp2_with fail
  refine (HC.out _).mono ?_
  rintro e w2 ⟨rfl, hb⟩
  have e0 := below_cell hb e0
  have e1 := below_cell hb e1
  have e2 := below_cell hb e2
  have e3 := below_cell hb e3
  have e4 := below_cell hb e4
  have e5 := below_cell hb e5
  have e6 := below_cell hb e6
  have e7 := below_cell hb e7
  have e8 := below_cell hb e8
  have e9 := below_cell hb e9
  have e10 := below_cell hb e10
  have e11 := below_cell hb e11
  have hB2 := hB1.trans (hb.mono (by rw [← hgb.out]; exact hB1.size))
  clear hb hB1
  go_wp2
  go_region_held3 (fun w' => w'.cell? ⟨b, 0, none⟩ = some (.int .i64 1) ∧ w'.cell? ⟨b, 1, none⟩ = some (.int .i64 0) ∧ w'.cell? ⟨b, 2, none⟩ = some (.int .i64 0) ∧ w'.cell? ⟨b, 3, none⟩ = some (.int .i64 0) ∧ w'.cell? ⟨b, 4, none⟩ = some (.int .i64 0) ∧ w'.cell? ⟨b, 5, none⟩ = some (.int .i64 0) ∧ w'.cell? ⟨b, 6, none⟩ = some (.int .i64 0) ∧ w'.cell? ⟨b, 7, none⟩ = some (.int .i64 T) ∧ w'.cell? ⟨b, 8, none⟩ = some (.int .i64 0) ∧ w'.cell? ⟨b, 9, none⟩ = some (.int .i64 0) ∧ w'.cell? ⟨b, 10, none⟩ = some (.bool false) ∧ w'.cell? ⟨b, 11, none⟩ = some (.int .i64 0))
    (first | exact ⟨e0, e1, e2, e3, e4, e5, e6, e7, e8, e9, e10, e11⟩)
    (first
    | (go_at_call 70; refine (HBR.out _).mono ?_; rintro e w3 ⟨rfl, hb0⟩; have e0 := below_cell hb0 e0; have e1 := below_cell hb0 e1; have e2 := below_cell hb0 e2; have e3 := below_cell hb0 e3; have e4 := below_cell hb0 e4; have e5 := below_cell hb0 e5; have e6 := below_cell hb0 e6; have e7 := below_cell hb0 e7; have e8 := below_cell hb0 e8; have e9 := below_cell hb0 e9; have e10 := below_cell hb0 e10; have e11 := below_cell hb0 e11; have hB3 : Below b w w3 := (by first | exact hB2.trans (hb0.mono (by rw [← hgb.out]; exact hB2.size)) | exact hB2.drew.trans (hb0.mono (by rw [← hgb.out]; exact hB2.size)))))
  all_goals
    go_wp2
    go_ret
    exact ⟨rfl, hgb.out ▸ (by first | exact hB3 | exact hB3.drew)⟩
end Go.Proofs.YtdemhabgaimnmaaGreatDoor
/- Code in memory, and the step layer. -/
namespace Go.Proofs.YtdemhabgaimnmaaGreatDoor
open Go.RowKit
set_option maxRecDepth 100000
set_option linter.unusedVariables false

def EntersF (f : FuncId) : Prop := ∀ (args : Array Value) (w : World), (callFunc f args).run Tryz.prog w = .ok (.enter f args) w

section
variable {ρ : Type} (cf : Cf) (R : ρ → Arg → St → St × Option (K ρ)) (E : G) (t : Nat)

/-- Value v is code that does as κ says, for n steps at least. -/
def CodeSim : Nat → Lab → World → Value → Option (K ρ) → Prop
  | 0, _, _, _, _ => True
  | _ + 1, _, _, v, none => v = .nilFunc
  | n + 1, L, w, v, some κ => ∃ f cap, v = .func (.func f) #[] cap ∧ EntersF f ∧
      ∀ L' w' S, Ext t L w L' w' → Good E L' S w' → Bd (step cf R κ S).1 →
        Calls Tryz.prog f cap w' fun e w'' => ∃ v' L'', e = .returned v' ∧ Did t L' w' L'' w'' ∧ Good E L'' (step cf R κ S).1 w'' ∧ CodeSim n L'' w'' v' (step cf R κ S).2

/-- What a call leaves that does as a pure function says, and hands back code. -/
def Post (n : Nat) (L : Lab) (w : World) (r : St × Option (K ρ)) (e : Ending) (w' : World) : Prop :=
  ∃ v L', e = .returned v ∧ Did t L w L' w' ∧ Good E L' r.1 w' ∧ CodeSim cf R E t n L' w' v r.2

/-- Value v is a continuation that does as c says. -/
def ConSim (sh : Arg → Prop) (n : Nat) (L : Lab) (w : World) (v : Value) (c : C ρ) : Prop :=
  ∃ f cap, v = .func (.func f) #[] cap ∧ EntersF f ∧
    ∀ a L' w' S, sh a → Ext t L w L' w' → Good E L' S w' → Bd (app cf R c a S).1 →
      Calls Tryz.prog f (a.vals ++ cap) w' (Post cf R E t n L' w' (app cf R c a S))

theorem CodeSim.ext {n : Nat} {L L' : Lab} {w w' : World} {v : Value} {k : Option (K ρ)} (h : CodeSim cf R E t n L w v k) (hx : Ext t L w L' w') : CodeSim cf R E t n L' w' v k := by
  cases n with
  | zero => trivial
  | succ n => cases k with
    | none => exact h
    | some κ =>
      obtain ⟨f, cap, h1, h2, h3⟩ := h
      exact ⟨f, cap, h1, h2, fun L2 w2 S hx2 hg hb => h3 L2 w2 S (hx.trans hx2) hg hb⟩

theorem ConSim.ext {sh : Arg → Prop} {n : Nat} {L L' : Lab} {w w' : World} {v : Value} {c : C ρ} (h : ConSim cf R E t sh n L w v c) (hx : Ext t L w L' w') : ConSim cf R E t sh n L' w' v c := by
  obtain ⟨f, cap, h1, h2, h3⟩ := h
  exact ⟨f, cap, h1, h2, fun a L2 w2 S hs hx2 hg hb => h3 a L2 w2 S hs (hx.trans hx2) hg hb⟩
/-- A step ahead of what a call leaves. -/
theorem Post.before {n : Nat} {L L1 : Lab} {w w1 w' : World} {r : St × Option (K ρ)} {e : Ending} (h : Post cf R E t n L1 w1 r e w') (hd : Did t L w L1 w1) : Post cf R E t n L w r e w' := by
  obtain ⟨v, L', h1, h2, h3, h4⟩ := h
  exact ⟨v, L', h1, hd.trans h2, h3, h4⟩
end

section
variable {ρ : Type} {cf : Cf} {R : ρ → Arg → St → St × Option (K ρ)} {E : G} {t : Nat}

theorem Good.drew {L : Lab} {S : St} {w : World} (h : Good E L S w) : Good E L S w.drew := h.below ((Below.refl _ w).drew)
theorem below_drewN {w : World} (q : Nat) : Below w.heap.size w (w.drewN q) := ⟨rfl, rfl, rfl, Nat.le_refl _, fun _ _ => rfl⟩
theorem Qt.below {v : Value} {w : World} {e : Ending} {w' : World} (h : Qt v w e w') : e = .returned v ∧ Below w.heap.size w w' := by
  obtain ⟨h1, q, rfl⟩ := h; exact ⟨h1, below_drewN q⟩
theorem Good.drewN {L : Lab} {S : St} {w : World} (h : Good E L S w) (q : Nat) : Good E L S (w.drewN q) := h.below (below_drewN q)
end
end Go.Proofs.YtdemhabgaimnmaaGreatDoor
/- Tasks: code that is done step by step. -/
namespace Go.Proofs.YtdemhabgaimnmaaGreatDoor
open Go.RowKit
set_option maxRecDepth 100000
set_option linter.unusedVariables false

/-- Nothing was turned but blocks whose label meets P. -/
structure DidP (P : Nat → Prop) (L : Lab) (w : World) (L' : Lab) (w' : World) : Prop where
  os : w'.os = w.os
  tape : w'.tape = w.tape
  output : w'.output = w.output
  size : w.heap.size ≤ w'.heap.size
  block : ∀ b, b < w.heap.size → ¬ P (L b) → w'.heap[b]? = w.heap[b]?
  lab : ∀ b, b < w.heap.size → L' b = L b
theorem DidP.refl (P : Nat → Prop) (L : Lab) (w : World) : DidP P L w L w := ⟨rfl, rfl, rfl, Nat.le_refl _, fun _ _ _ => rfl, fun _ _ => rfl⟩
theorem DidP.trans {P : Nat → Prop} {L L1 L2 : Lab} {w w1 w2 : World} (h : DidP P L w L1 w1) (k : DidP P L1 w1 L2 w2) : DidP P L w L2 w2 :=
  ⟨k.os.trans h.os, k.tape.trans h.tape, k.output.trans h.output, Nat.le_trans h.size k.size,
    fun b hb hl => (k.block b (Nat.lt_of_lt_of_le hb h.size) (by rw [h.lab b hb]; exact hl)).trans (h.block b hb hl),
    fun b hb => (k.lab b (Nat.lt_of_lt_of_le hb h.size)).trans (h.lab b hb)⟩
theorem DidP.mono {P Q : Nat → Prop} {L L1 : Lab} {w w1 : World} (h : DidP P L w L1 w1) (hq : ∀ l, P l → Q l) : DidP Q L w L1 w1 :=
  ⟨h.os, h.tape, h.output, h.size, fun b hb hl => h.block b hb (fun hp => hl (hq _ hp)), h.lab⟩
theorem DidP.of_below {w w' : World} (h : Below w.heap.size w w') (P : Nat → Prop) (L : Lab) : DidP P L w L w' :=
  ⟨h.os, h.tape, h.output, h.size, fun b hb _ => h.block b hb, fun _ _ => rfl⟩
theorem DidP.set {P : Nat → Prop} {L : Lab} {w : World} {a : Addr} (v : Value) (h : P (L a.block)) : DidP P L w L (w.setCell a v) :=
  ⟨rfl, rfl, rfl, by simp [World.setCell], fun b hb hl => Below.heap_setCell _ _ _ _ (by intro e; subst e; exact hl h), fun _ _ => rfl⟩
theorem DidP.cell {P : Nat → Prop} {L L' : Lab} {w w' : World} (h : DidP P L w L' w') {a : Addr} {v : Value} (hc : w.cell? a = some v) (hl : ¬ P (L a.block)) : w'.cell? a = some v :=
  (World.cell?_of_block (h.block a.block (cell_lt hc) hl)).trans hc
theorem DidP.frozen {P : Nat → Prop} {L L' : Lab} {w w' : World} (h : DidP P L w L' w') {a : Addr} {v : Value} (hc : w.cell? a = some v) (hl : ¬ P (L a.block)) : w'.frozen? a = w.frozen? a :=
  World.frozen?_of_block (h.block a.block (cell_lt hc) hl)
/-- What a step of task t may turn: what all share, the task's own, the task's record. -/
def TP (t : Nat) (l : Nat) : Prop := (1 ≤ l ∧ l < 8) ∨ l = 8 + t ∨ l = 5000 + t
theorem DidP.ext {t u : Nat} {L L' : Lab} {w w' : World} (h : DidP (TP t) L w L' w') (hne : u ≠ t) (hu : u < 4000) (ht : t < 4000) : Ext u L w L' w' :=
  ⟨h.os, h.tape, h.output, h.size, fun b hb hl => h.block b hb (by unfold TP; omega), h.lab⟩

section
variable {ρ : Type} {cf : Cf} {R : ρ → Arg → St → St × Option (K ρ)} {E : G} {t : Nat}

theorem Ext.set {L : Lab} {w : World} {a : Addr} (v : Value) (h0 : L a.block ≠ 0) (h1 : L a.block ≠ 8 + t) : Ext t L w L (w.setCell a v) :=
  ⟨rfl, rfl, rfl, by simp [World.setCell], fun b hb hl => Below.heap_setCell _ _ _ _ (by intro e; subst e; omega), fun _ _ => rfl⟩
theorem CodeSim.value {n : Nat} {L : Lab} {w : World} {v : Value} {k : Option (K ρ)} (h : CodeSim cf R E t (n + 1) L w v k) : v = .nilFunc ∨ ∃ f cap, v = .func (.func f) #[] cap := by
  cases k with
  | none => exact .inl h
  | some κ => obtain ⟨f, cap, h, _⟩ := h; exact .inr ⟨f, cap, h⟩

end
end Go.Proofs.YtdemhabgaimnmaaGreatDoor
/- Rounding, and the configuration. -/
namespace Go.Proofs.YtdemhabgaimnmaaGreatDoor
open Go.RowKit
set_option maxRecDepth 100000
set_option linter.unusedVariables false

def Cf.vals (c : Cf) : Array Value := #[.int .i64 c.workers, .int .i64 c.levels, .int .i64 c.bits, .int .i64 c.nodes, .int .i64 c.tickets, .int .i64 c.slack, .int .i64 c.first, .int .i64 c.conns, .int .i64 c.timeout, .int .i64 c.base, .int .i64 c.cap, .int .i64 c.jitter, .int .i64 c.attempts]

end Go.Proofs.YtdemhabgaimnmaaGreatDoor
/- The core: what all programs share. -/
namespace Go.Proofs.YtdemhabgaimnmaaGreatDoor
open Go.RowKit
set_option maxRecDepth 100000
set_option linter.unusedVariables false

section
variable {ρ : Type} {R : ρ → Arg → St → St × Option (K ρ)} {E : G} {t : Nat}

theorem Good.cells {L : Lab} {S : St} {w : World} (h : Good E L S w) : w.cell? ⟨E.k, 1, none⟩ = some (.pointer (some ⟨E.a, 0, none⟩)) ∧ w.cell? ⟨E.k, 0, none⟩ = some (.pointer (some ⟨E.p, 0, none⟩)) := ⟨h.k1, h.k0⟩

end
end Go.Proofs.YtdemhabgaimnmaaGreatDoor
/- Making a core: the plan, the arena, the fresh cells. -/
namespace Go.Proofs.YtdemhabgaimnmaaGreatDoor
open Go.RowKit
set_option maxRecDepth 100000
set_option linter.unusedVariables false

set_option maxHeartbeats 1000000 in
theorem plan_list (c : Cf) (w : World) :
    Calls Tryz.prog 39 #[.agg c.vals] w fun e w' => e = .returned (.agg c.vals) ∧ Below w.heap.size w w' := by
  unfold Cf.vals
  go_enter Tryz.func39, Tryz.ntmps39
  go_wp2
  refine bodyPost_ret (v := .agg c.vals) (by simp [results, Tryz.results39, go_sem, Cf.vals]) rfl ⟨by unfold Cf.vals; rfl, ?_⟩
  exact ((Below.refl _ _).alloc (Nat.le_refl _) _).alloc (by simp) _

/-- A configuration's numbers, by their places. -/
def Cf.nth (c : Cf) (k : Nat) : Nat := [c.workers, c.levels, c.bits, c.nodes, c.tickets, c.slack, c.first, c.conns, c.timeout, c.base, c.cap, c.jitter, c.attempts].getD k 0
def loOf (k : Nat) : Nat := [1, 1, 1, 1, 1, 0, 0, 0, 1, 1, 1, 0, 0].getD k 0
def hiOf (k : Nat) : Nat := [64, 8, 6, 4096, 8192, 1073741823, 4294967295, 256, 1073741823, 1073741823, 1073741823, 1073741823, 31].getD k 0
theorem Cf.Ok.nth {c : Cf} (h : c.Ok) : ∀ k, k < 13 → loOf k ≤ c.nth k ∧ c.nth k ≤ hiOf k
  | 0, _ => ⟨by show 1 ≤ c.workers; have := h.w1; omega, by show c.workers ≤ 64; have := h.w2; omega⟩
  | 1, _ => ⟨by show 1 ≤ c.levels; have := h.l1; omega, by show c.levels ≤ 8; have := h.l2; omega⟩
  | 2, _ => ⟨by show 1 ≤ c.bits; have := h.b1; omega, by show c.bits ≤ 6; have := h.b2; omega⟩
  | 3, _ => ⟨by show 1 ≤ c.nodes; have := h.n1; omega, by show c.nodes ≤ 4096; have := h.n2; omega⟩
  | 4, _ => ⟨by show 1 ≤ c.tickets; have := h.t1; omega, by show c.tickets ≤ 8192; have := h.t2; omega⟩
  | 5, _ => ⟨by show 0 ≤ c.slack; have := h.s2; omega, by show c.slack ≤ 1073741823; have := h.s2; omega⟩
  | 6, _ => ⟨by show 0 ≤ c.first; have := h.f2; omega, by show c.first ≤ 4294967295; have := h.f2; omega⟩
  | 7, _ => ⟨by show 0 ≤ c.conns; have := h.c2; omega, by show c.conns ≤ 256; have := h.c2; omega⟩
  | 8, _ => ⟨by show 1 ≤ c.timeout; have := h.o1; omega, by show c.timeout ≤ 1073741823; have := h.o2; omega⟩
  | 9, _ => ⟨by show 1 ≤ c.base; have := h.a1; omega, by show c.base ≤ 1073741823; have := h.a2; omega⟩
  | 10, _ => ⟨by show 1 ≤ c.cap; have := h.p1; omega, by show c.cap ≤ 1073741823; have := h.p2; omega⟩
  | 11, _ => ⟨by show 0 ≤ c.jitter; have := h.j2; omega, by show c.jitter ≤ 1073741823; have := h.j2; omega⟩
  | 12, _ => ⟨by show 0 ≤ c.attempts; have := h.r2; omega, by show c.attempts ≤ 31; have := h.r2; omega⟩
  | k + 13, h => absurd h (by omega)
theorem index_cf (c : Cf) (w : World) : ∀ k, k < 13 → (Instr.index 22 (.agg #[.int .i64 c.workers, .int .i64 c.levels, .int .i64 c.bits, .int .i64 c.nodes, .int .i64 c.tickets, .int .i64 c.slack, .int .i64 c.first, .int .i64 c.conns, .int .i64 c.timeout, .int .i64 c.base, .int .i64 c.cap, .int .i64 c.jitter, .int .i64 c.attempts]) (.int .i64 (k : Nat))).run Tryz.prog w = .ok (.int .i64 (c.nth k : Nat)) w
  | 0, _ => by kernel_rfl
  | 1, _ => by kernel_rfl
  | 2, _ => by kernel_rfl
  | 3, _ => by kernel_rfl
  | 4, _ => by kernel_rfl
  | 5, _ => by kernel_rfl
  | 6, _ => by kernel_rfl
  | 7, _ => by kernel_rfl
  | 8, _ => by kernel_rfl
  | 9, _ => by kernel_rfl
  | 10, _ => by kernel_rfl
  | 11, _ => by kernel_rfl
  | 12, _ => by kernel_rfl
  | k + 13, h => absurd h (by omega)


theorem wpList_value {P : Program} {ops : Array Oper} {Q : Exit → Act → World → Prop} {o : Oper} {rest : List Oper} {a : Act} {w : World} (hg : o.guard = none) (v : Value)
    (hrun : (execOp a.eval o).run P w = .ok (.value v) w) (h : wpList P ops Q rest (a.put o.dst v) w) : wpList P ops Q (o :: rest) a w :=
  wpList_plain hg fun K hK => by
    unfold Oper.wp
    rw [hrun]
    exact hK _ _ h

def spanVals : List Value := [.int .i64 1, .int .i64 64, .int .i64 1, .int .i64 8, .int .i64 1, .int .i64 6, .int .i64 1, .int .i64 4096, .int .i64 1, .int .i64 8192, .int .i64 0, .int .i64 1073741823, .int .i64 0, .int .i64 4294967295, .int .i64 0, .int .i64 256, .int .i64 1, .int .i64 1073741823, .int .i64 1, .int .i64 1073741823, .int .i64 1, .int .i64 1073741823, .int .i64 0, .int .i64 1073741823, .int .i64 0, .int .i64 31]
theorem spanVals_lo : ∀ k, k < 13 → spanVals[k * 2]? = some (.int .i64 (loOf k : Nat))
  | 0, _ => rfl
  | 1, _ => rfl
  | 2, _ => rfl
  | 3, _ => rfl
  | 4, _ => rfl
  | 5, _ => rfl
  | 6, _ => rfl
  | 7, _ => rfl
  | 8, _ => rfl
  | 9, _ => rfl
  | 10, _ => rfl
  | 11, _ => rfl
  | 12, _ => rfl
  | k + 13, h => absurd h (by omega)
theorem spanVals_hi : ∀ k, k < 13 → spanVals[k * 2 + 1]? = some (.int .i64 (hiOf k : Nat))
  | 0, _ => rfl
  | 1, _ => rfl
  | 2, _ => rfl
  | 3, _ => rfl
  | 4, _ => rfl
  | 5, _ => rfl
  | 6, _ => rfl
  | 7, _ => rfl
  | 8, _ => rfl
  | 9, _ => rfl
  | 10, _ => rfl
  | 11, _ => rfl
  | 12, _ => rfl
  | k + 13, h => absurd h (by omega)
theorem there_alloc_new (w : World) (c : Array Value) (t : TypeId) (n : Nat) (hn : n = c.size) : (w.alloc (.cells c t)).there w.heap.size 0 n := by
  intro j hj
  have hb := heap_alloc_new w (.cells c t)
  refine ⟨?_, ?_⟩
  · rw [cell_of_row _ _ _ _ _ _ hb]; simp; omega
  · exact frozen_of_row _ _ _ _ _ hb
theorem size_setCells (b : Nat) : ∀ (vs : List Value) (o : Nat) (w : World), (w.setCells b o vs).heap.size = w.heap.size
  | [], _, _ => rfl
  | v :: r, o, w => by show ((w.setCell ⟨b, o, none⟩ v).setCells b (o + 1) r).heap.size = _; rw [size_setCells b r (o + 1)]; simp [World.setCell]
theorem below_setCells {B : Nat} {a : World} (b : Nat) (hb : B ≤ b) : ∀ (vs : List Value) (o : Nat) (w : World), Below B a w → Below B a (w.setCells b o vs)
  | [], _, _, h => h
  | v :: r, o, w, h => below_setCells b hb r (o + 1) (w.setCell ⟨b, o, none⟩ v) (h.setCell hb v)

set_option maxHeartbeats 1000000 in
theorem plan_check (c : Cf) (hok : c.Ok) (w : World) :
    Calls Tryz.prog 24 #[.agg c.vals] w fun e w' => e = .returned (.tuple #[.int .i64 0, .int .i64 0]) ∧ Below w.heap.size w w' := by
  have HO := Go.Lib.hid hok.nth
  have HL := Go.Lib.hid (plan_list c)
  have HI := Go.Lib.hid (index_cf c)
  clear hok
  unfold Cf.vals at HL ⊢
  go_enter Tryz.func24, Tryz.ntmps24
  have hth : ((w.alloc (.cells #[.int .i64 c.workers, .int .i64 c.levels, .int .i64 c.bits, .int .i64 c.nodes, .int .i64 c.tickets, .int .i64 c.slack, .int .i64 c.first, .int .i64 c.conns, .int .i64 c.timeout, .int .i64 c.base, .int .i64 c.cap, .int .i64 c.jitter, .int .i64 c.attempts] 29)).alloc (.cells #[.int .i64 0, .int .i64 0, .int .i64 0, .int .i64 0, .int .i64 0, .int .i64 0, .int .i64 0, .int .i64 0, .int .i64 0, .int .i64 0, .int .i64 0, .int .i64 0, .int .i64 0, .int .i64 0, .int .i64 0, .int .i64 0, .int .i64 0, .int .i64 0, .int .i64 0, .int .i64 0, .int .i64 0, .int .i64 0, .int .i64 0, .int .i64 0, .int .i64 0, .int .i64 0] 99)).there (w.heap.size + 1) 0 26 := by
    have h := there_alloc_new (w.alloc (.cells #[.int .i64 c.workers, .int .i64 c.levels, .int .i64 c.bits, .int .i64 c.nodes, .int .i64 c.tickets, .int .i64 c.slack, .int .i64 c.first, .int .i64 c.conns, .int .i64 c.timeout, .int .i64 c.base, .int .i64 c.cap, .int .i64 c.jitter, .int .i64 c.attempts] 29)) #[.int .i64 0, .int .i64 0, .int .i64 0, .int .i64 0, .int .i64 0, .int .i64 0, .int .i64 0, .int .i64 0, .int .i64 0, .int .i64 0, .int .i64 0, .int .i64 0, .int .i64 0, .int .i64 0, .int .i64 0, .int .i64 0, .int .i64 0, .int .i64 0, .int .i64 0, .int .i64 0, .int .i64 0, .int .i64 0, .int .i64 0, .int .i64 0, .int .i64 0, .int .i64 0] 99 26 rfl
    simpa using h
  have HTH := Go.Lib.hid hth
  clear hth
  go_wp2_with (first
    | (refine wpList_value (o := ⟨some 20, _, _, _, _, _⟩) rfl (.agg spanVals.toArray) (by kernel_rfl) ?_)
    | (refine wpList_store_mid (op := ⟨none, .store 99 _ _, _, _, _, _⟩) rfl 99 (.tmp 4) (.tmp 20) rfl (w.heap.size + 1) 0 spanVals.toArray rfl rfl HTH.out (by kernel_rfl) (by kernel_rfl) ?_; refine Hid.out ?_))
  have hbW : Below w.heap.size w (((w.alloc (.cells #[.int .i64 c.workers, .int .i64 c.levels, .int .i64 c.bits, .int .i64 c.nodes, .int .i64 c.tickets, .int .i64 c.slack, .int .i64 c.first, .int .i64 c.conns, .int .i64 c.timeout, .int .i64 c.base, .int .i64 c.cap, .int .i64 c.jitter, .int .i64 c.attempts] 29)).alloc (.cells #[.int .i64 0, .int .i64 0, .int .i64 0, .int .i64 0, .int .i64 0, .int .i64 0, .int .i64 0, .int .i64 0, .int .i64 0, .int .i64 0, .int .i64 0, .int .i64 0, .int .i64 0, .int .i64 0, .int .i64 0, .int .i64 0, .int .i64 0, .int .i64 0, .int .i64 0, .int .i64 0, .int .i64 0, .int .i64 0, .int .i64 0, .int .i64 0, .int .i64 0, .int .i64 0] 99)).setCells (w.heap.size + 1) 0 spanVals) := below_setCells _ (by omega) _ _ _ (((Below.refl _ w).alloc (Nat.le_refl _) _).alloc (by simp) _)
  have hr : (((w.alloc (.cells #[.int .i64 c.workers, .int .i64 c.levels, .int .i64 c.bits, .int .i64 c.nodes, .int .i64 c.tickets, .int .i64 c.slack, .int .i64 c.first, .int .i64 c.conns, .int .i64 c.timeout, .int .i64 c.base, .int .i64 c.cap, .int .i64 c.jitter, .int .i64 c.attempts] 29)).alloc (.cells #[.int .i64 0, .int .i64 0, .int .i64 0, .int .i64 0, .int .i64 0, .int .i64 0, .int .i64 0, .int .i64 0, .int .i64 0, .int .i64 0, .int .i64 0, .int .i64 0, .int .i64 0, .int .i64 0, .int .i64 0, .int .i64 0, .int .i64 0, .int .i64 0, .int .i64 0, .int .i64 0, .int .i64 0, .int .i64 0, .int .i64 0, .int .i64 0, .int .i64 0, .int .i64 0] 99)).setCells (w.heap.size + 1) 0 spanVals).rangeAt (w.heap.size + 1) 0 spanVals := World.rangeAt_setCells_same _ _ _ _ HTH.out
  have hsz : (((w.alloc (.cells #[.int .i64 c.workers, .int .i64 c.levels, .int .i64 c.bits, .int .i64 c.nodes, .int .i64 c.tickets, .int .i64 c.slack, .int .i64 c.first, .int .i64 c.conns, .int .i64 c.timeout, .int .i64 c.base, .int .i64 c.cap, .int .i64 c.jitter, .int .i64 c.attempts] 29)).alloc (.cells #[.int .i64 0, .int .i64 0, .int .i64 0, .int .i64 0, .int .i64 0, .int .i64 0, .int .i64 0, .int .i64 0, .int .i64 0, .int .i64 0, .int .i64 0, .int .i64 0, .int .i64 0, .int .i64 0, .int .i64 0, .int .i64 0, .int .i64 0, .int .i64 0, .int .i64 0, .int .i64 0, .int .i64 0, .int .i64 0, .int .i64 0, .int .i64 0, .int .i64 0, .int .i64 0] 99)).setCells (w.heap.size + 1) 0 spanVals).heap.size = w.heap.size + 1 + 1 := by rw [size_setCells]; simp
  have hcv : ∀ o, (((w.alloc (.cells #[.int .i64 c.workers, .int .i64 c.levels, .int .i64 c.bits, .int .i64 c.nodes, .int .i64 c.tickets, .int .i64 c.slack, .int .i64 c.first, .int .i64 c.conns, .int .i64 c.timeout, .int .i64 c.base, .int .i64 c.cap, .int .i64 c.jitter, .int .i64 c.attempts] 29)).alloc (.cells #[.int .i64 0, .int .i64 0, .int .i64 0, .int .i64 0, .int .i64 0, .int .i64 0, .int .i64 0, .int .i64 0, .int .i64 0, .int .i64 0, .int .i64 0, .int .i64 0, .int .i64 0, .int .i64 0, .int .i64 0, .int .i64 0, .int .i64 0, .int .i64 0, .int .i64 0, .int .i64 0, .int .i64 0, .int .i64 0, .int .i64 0, .int .i64 0, .int .i64 0, .int .i64 0] 99)).setCells (w.heap.size + 1) 0 spanVals).cell? ⟨w.heap.size, o, none⟩ = ((w.alloc (.cells #[.int .i64 c.workers, .int .i64 c.levels, .int .i64 c.bits, .int .i64 c.nodes, .int .i64 c.tickets, .int .i64 c.slack, .int .i64 c.first, .int .i64 c.conns, .int .i64 c.timeout, .int .i64 c.base, .int .i64 c.cap, .int .i64 c.jitter, .int .i64 c.attempts] 29)).alloc (.cells #[.int .i64 0, .int .i64 0, .int .i64 0, .int .i64 0, .int .i64 0, .int .i64 0, .int .i64 0, .int .i64 0, .int .i64 0, .int .i64 0, .int .i64 0, .int .i64 0, .int .i64 0, .int .i64 0, .int .i64 0, .int .i64 0, .int .i64 0, .int .i64 0, .int .i64 0, .int .i64 0, .int .i64 0, .int .i64 0, .int .i64 0, .int .i64 0, .int .i64 0, .int .i64 0] 99)).cell? ⟨w.heap.size, o, none⟩ := fun o => World.cell?_setCells_out _ _ _ _ _ (by intro h; simp at h)
  have q0 : (((w.alloc (.cells #[.int .i64 c.workers, .int .i64 c.levels, .int .i64 c.bits, .int .i64 c.nodes, .int .i64 c.tickets, .int .i64 c.slack, .int .i64 c.first, .int .i64 c.conns, .int .i64 c.timeout, .int .i64 c.base, .int .i64 c.cap, .int .i64 c.jitter, .int .i64 c.attempts] 29)).alloc (.cells #[.int .i64 0, .int .i64 0, .int .i64 0, .int .i64 0, .int .i64 0, .int .i64 0, .int .i64 0, .int .i64 0, .int .i64 0, .int .i64 0, .int .i64 0, .int .i64 0, .int .i64 0, .int .i64 0, .int .i64 0, .int .i64 0, .int .i64 0, .int .i64 0, .int .i64 0, .int .i64 0, .int .i64 0, .int .i64 0, .int .i64 0, .int .i64 0, .int .i64 0, .int .i64 0] 99)).setCells (w.heap.size + 1) 0 spanVals).cell? ⟨w.heap.size, 0, none⟩ = some (.int .i64 c.workers) := by rw [hcv]; go_simp
  have q1 : (((w.alloc (.cells #[.int .i64 c.workers, .int .i64 c.levels, .int .i64 c.bits, .int .i64 c.nodes, .int .i64 c.tickets, .int .i64 c.slack, .int .i64 c.first, .int .i64 c.conns, .int .i64 c.timeout, .int .i64 c.base, .int .i64 c.cap, .int .i64 c.jitter, .int .i64 c.attempts] 29)).alloc (.cells #[.int .i64 0, .int .i64 0, .int .i64 0, .int .i64 0, .int .i64 0, .int .i64 0, .int .i64 0, .int .i64 0, .int .i64 0, .int .i64 0, .int .i64 0, .int .i64 0, .int .i64 0, .int .i64 0, .int .i64 0, .int .i64 0, .int .i64 0, .int .i64 0, .int .i64 0, .int .i64 0, .int .i64 0, .int .i64 0, .int .i64 0, .int .i64 0, .int .i64 0, .int .i64 0] 99)).setCells (w.heap.size + 1) 0 spanVals).cell? ⟨w.heap.size, 1, none⟩ = some (.int .i64 c.levels) := by rw [hcv]; go_simp
  have q2 : (((w.alloc (.cells #[.int .i64 c.workers, .int .i64 c.levels, .int .i64 c.bits, .int .i64 c.nodes, .int .i64 c.tickets, .int .i64 c.slack, .int .i64 c.first, .int .i64 c.conns, .int .i64 c.timeout, .int .i64 c.base, .int .i64 c.cap, .int .i64 c.jitter, .int .i64 c.attempts] 29)).alloc (.cells #[.int .i64 0, .int .i64 0, .int .i64 0, .int .i64 0, .int .i64 0, .int .i64 0, .int .i64 0, .int .i64 0, .int .i64 0, .int .i64 0, .int .i64 0, .int .i64 0, .int .i64 0, .int .i64 0, .int .i64 0, .int .i64 0, .int .i64 0, .int .i64 0, .int .i64 0, .int .i64 0, .int .i64 0, .int .i64 0, .int .i64 0, .int .i64 0, .int .i64 0, .int .i64 0] 99)).setCells (w.heap.size + 1) 0 spanVals).cell? ⟨w.heap.size, 2, none⟩ = some (.int .i64 c.bits) := by rw [hcv]; go_simp
  have q3 : (((w.alloc (.cells #[.int .i64 c.workers, .int .i64 c.levels, .int .i64 c.bits, .int .i64 c.nodes, .int .i64 c.tickets, .int .i64 c.slack, .int .i64 c.first, .int .i64 c.conns, .int .i64 c.timeout, .int .i64 c.base, .int .i64 c.cap, .int .i64 c.jitter, .int .i64 c.attempts] 29)).alloc (.cells #[.int .i64 0, .int .i64 0, .int .i64 0, .int .i64 0, .int .i64 0, .int .i64 0, .int .i64 0, .int .i64 0, .int .i64 0, .int .i64 0, .int .i64 0, .int .i64 0, .int .i64 0, .int .i64 0, .int .i64 0, .int .i64 0, .int .i64 0, .int .i64 0, .int .i64 0, .int .i64 0, .int .i64 0, .int .i64 0, .int .i64 0, .int .i64 0, .int .i64 0, .int .i64 0] 99)).setCells (w.heap.size + 1) 0 spanVals).cell? ⟨w.heap.size, 3, none⟩ = some (.int .i64 c.nodes) := by rw [hcv]; go_simp
  have q4 : (((w.alloc (.cells #[.int .i64 c.workers, .int .i64 c.levels, .int .i64 c.bits, .int .i64 c.nodes, .int .i64 c.tickets, .int .i64 c.slack, .int .i64 c.first, .int .i64 c.conns, .int .i64 c.timeout, .int .i64 c.base, .int .i64 c.cap, .int .i64 c.jitter, .int .i64 c.attempts] 29)).alloc (.cells #[.int .i64 0, .int .i64 0, .int .i64 0, .int .i64 0, .int .i64 0, .int .i64 0, .int .i64 0, .int .i64 0, .int .i64 0, .int .i64 0, .int .i64 0, .int .i64 0, .int .i64 0, .int .i64 0, .int .i64 0, .int .i64 0, .int .i64 0, .int .i64 0, .int .i64 0, .int .i64 0, .int .i64 0, .int .i64 0, .int .i64 0, .int .i64 0, .int .i64 0, .int .i64 0] 99)).setCells (w.heap.size + 1) 0 spanVals).cell? ⟨w.heap.size, 4, none⟩ = some (.int .i64 c.tickets) := by rw [hcv]; go_simp
  have q5 : (((w.alloc (.cells #[.int .i64 c.workers, .int .i64 c.levels, .int .i64 c.bits, .int .i64 c.nodes, .int .i64 c.tickets, .int .i64 c.slack, .int .i64 c.first, .int .i64 c.conns, .int .i64 c.timeout, .int .i64 c.base, .int .i64 c.cap, .int .i64 c.jitter, .int .i64 c.attempts] 29)).alloc (.cells #[.int .i64 0, .int .i64 0, .int .i64 0, .int .i64 0, .int .i64 0, .int .i64 0, .int .i64 0, .int .i64 0, .int .i64 0, .int .i64 0, .int .i64 0, .int .i64 0, .int .i64 0, .int .i64 0, .int .i64 0, .int .i64 0, .int .i64 0, .int .i64 0, .int .i64 0, .int .i64 0, .int .i64 0, .int .i64 0, .int .i64 0, .int .i64 0, .int .i64 0, .int .i64 0] 99)).setCells (w.heap.size + 1) 0 spanVals).cell? ⟨w.heap.size, 5, none⟩ = some (.int .i64 c.slack) := by rw [hcv]; go_simp
  have q6 : (((w.alloc (.cells #[.int .i64 c.workers, .int .i64 c.levels, .int .i64 c.bits, .int .i64 c.nodes, .int .i64 c.tickets, .int .i64 c.slack, .int .i64 c.first, .int .i64 c.conns, .int .i64 c.timeout, .int .i64 c.base, .int .i64 c.cap, .int .i64 c.jitter, .int .i64 c.attempts] 29)).alloc (.cells #[.int .i64 0, .int .i64 0, .int .i64 0, .int .i64 0, .int .i64 0, .int .i64 0, .int .i64 0, .int .i64 0, .int .i64 0, .int .i64 0, .int .i64 0, .int .i64 0, .int .i64 0, .int .i64 0, .int .i64 0, .int .i64 0, .int .i64 0, .int .i64 0, .int .i64 0, .int .i64 0, .int .i64 0, .int .i64 0, .int .i64 0, .int .i64 0, .int .i64 0, .int .i64 0] 99)).setCells (w.heap.size + 1) 0 spanVals).cell? ⟨w.heap.size, 6, none⟩ = some (.int .i64 c.first) := by rw [hcv]; go_simp
  have q7 : (((w.alloc (.cells #[.int .i64 c.workers, .int .i64 c.levels, .int .i64 c.bits, .int .i64 c.nodes, .int .i64 c.tickets, .int .i64 c.slack, .int .i64 c.first, .int .i64 c.conns, .int .i64 c.timeout, .int .i64 c.base, .int .i64 c.cap, .int .i64 c.jitter, .int .i64 c.attempts] 29)).alloc (.cells #[.int .i64 0, .int .i64 0, .int .i64 0, .int .i64 0, .int .i64 0, .int .i64 0, .int .i64 0, .int .i64 0, .int .i64 0, .int .i64 0, .int .i64 0, .int .i64 0, .int .i64 0, .int .i64 0, .int .i64 0, .int .i64 0, .int .i64 0, .int .i64 0, .int .i64 0, .int .i64 0, .int .i64 0, .int .i64 0, .int .i64 0, .int .i64 0, .int .i64 0, .int .i64 0] 99)).setCells (w.heap.size + 1) 0 spanVals).cell? ⟨w.heap.size, 7, none⟩ = some (.int .i64 c.conns) := by rw [hcv]; go_simp
  have q8 : (((w.alloc (.cells #[.int .i64 c.workers, .int .i64 c.levels, .int .i64 c.bits, .int .i64 c.nodes, .int .i64 c.tickets, .int .i64 c.slack, .int .i64 c.first, .int .i64 c.conns, .int .i64 c.timeout, .int .i64 c.base, .int .i64 c.cap, .int .i64 c.jitter, .int .i64 c.attempts] 29)).alloc (.cells #[.int .i64 0, .int .i64 0, .int .i64 0, .int .i64 0, .int .i64 0, .int .i64 0, .int .i64 0, .int .i64 0, .int .i64 0, .int .i64 0, .int .i64 0, .int .i64 0, .int .i64 0, .int .i64 0, .int .i64 0, .int .i64 0, .int .i64 0, .int .i64 0, .int .i64 0, .int .i64 0, .int .i64 0, .int .i64 0, .int .i64 0, .int .i64 0, .int .i64 0, .int .i64 0] 99)).setCells (w.heap.size + 1) 0 spanVals).cell? ⟨w.heap.size, 8, none⟩ = some (.int .i64 c.timeout) := by rw [hcv]; go_simp
  have q9 : (((w.alloc (.cells #[.int .i64 c.workers, .int .i64 c.levels, .int .i64 c.bits, .int .i64 c.nodes, .int .i64 c.tickets, .int .i64 c.slack, .int .i64 c.first, .int .i64 c.conns, .int .i64 c.timeout, .int .i64 c.base, .int .i64 c.cap, .int .i64 c.jitter, .int .i64 c.attempts] 29)).alloc (.cells #[.int .i64 0, .int .i64 0, .int .i64 0, .int .i64 0, .int .i64 0, .int .i64 0, .int .i64 0, .int .i64 0, .int .i64 0, .int .i64 0, .int .i64 0, .int .i64 0, .int .i64 0, .int .i64 0, .int .i64 0, .int .i64 0, .int .i64 0, .int .i64 0, .int .i64 0, .int .i64 0, .int .i64 0, .int .i64 0, .int .i64 0, .int .i64 0, .int .i64 0, .int .i64 0] 99)).setCells (w.heap.size + 1) 0 spanVals).cell? ⟨w.heap.size, 9, none⟩ = some (.int .i64 c.base) := by rw [hcv]; go_simp
  have q10 : (((w.alloc (.cells #[.int .i64 c.workers, .int .i64 c.levels, .int .i64 c.bits, .int .i64 c.nodes, .int .i64 c.tickets, .int .i64 c.slack, .int .i64 c.first, .int .i64 c.conns, .int .i64 c.timeout, .int .i64 c.base, .int .i64 c.cap, .int .i64 c.jitter, .int .i64 c.attempts] 29)).alloc (.cells #[.int .i64 0, .int .i64 0, .int .i64 0, .int .i64 0, .int .i64 0, .int .i64 0, .int .i64 0, .int .i64 0, .int .i64 0, .int .i64 0, .int .i64 0, .int .i64 0, .int .i64 0, .int .i64 0, .int .i64 0, .int .i64 0, .int .i64 0, .int .i64 0, .int .i64 0, .int .i64 0, .int .i64 0, .int .i64 0, .int .i64 0, .int .i64 0, .int .i64 0, .int .i64 0] 99)).setCells (w.heap.size + 1) 0 spanVals).cell? ⟨w.heap.size, 10, none⟩ = some (.int .i64 c.cap) := by rw [hcv]; go_simp
  have q11 : (((w.alloc (.cells #[.int .i64 c.workers, .int .i64 c.levels, .int .i64 c.bits, .int .i64 c.nodes, .int .i64 c.tickets, .int .i64 c.slack, .int .i64 c.first, .int .i64 c.conns, .int .i64 c.timeout, .int .i64 c.base, .int .i64 c.cap, .int .i64 c.jitter, .int .i64 c.attempts] 29)).alloc (.cells #[.int .i64 0, .int .i64 0, .int .i64 0, .int .i64 0, .int .i64 0, .int .i64 0, .int .i64 0, .int .i64 0, .int .i64 0, .int .i64 0, .int .i64 0, .int .i64 0, .int .i64 0, .int .i64 0, .int .i64 0, .int .i64 0, .int .i64 0, .int .i64 0, .int .i64 0, .int .i64 0, .int .i64 0, .int .i64 0, .int .i64 0, .int .i64 0, .int .i64 0, .int .i64 0] 99)).setCells (w.heap.size + 1) 0 spanVals).cell? ⟨w.heap.size, 11, none⟩ = some (.int .i64 c.jitter) := by rw [hcv]; go_simp
  have q12 : (((w.alloc (.cells #[.int .i64 c.workers, .int .i64 c.levels, .int .i64 c.bits, .int .i64 c.nodes, .int .i64 c.tickets, .int .i64 c.slack, .int .i64 c.first, .int .i64 c.conns, .int .i64 c.timeout, .int .i64 c.base, .int .i64 c.cap, .int .i64 c.jitter, .int .i64 c.attempts] 29)).alloc (.cells #[.int .i64 0, .int .i64 0, .int .i64 0, .int .i64 0, .int .i64 0, .int .i64 0, .int .i64 0, .int .i64 0, .int .i64 0, .int .i64 0, .int .i64 0, .int .i64 0, .int .i64 0, .int .i64 0, .int .i64 0, .int .i64 0, .int .i64 0, .int .i64 0, .int .i64 0, .int .i64 0, .int .i64 0, .int .i64 0, .int .i64 0, .int .i64 0, .int .i64 0, .int .i64 0] 99)).setCells (w.heap.size + 1) 0 spanVals).cell? ⟨w.heap.size, 12, none⟩ = some (.int .i64 c.attempts) := by rw [hcv]; go_simp
  generalize hW : World.setCells ((w.alloc (.cells #[.int .i64 c.workers, .int .i64 c.levels, .int .i64 c.bits, .int .i64 c.nodes, .int .i64 c.tickets, .int .i64 c.slack, .int .i64 c.first, .int .i64 c.conns, .int .i64 c.timeout, .int .i64 c.base, .int .i64 c.cap, .int .i64 c.jitter, .int .i64 c.attempts] 29)).alloc (.cells #[.int .i64 0, .int .i64 0, .int .i64 0, .int .i64 0, .int .i64 0, .int .i64 0, .int .i64 0, .int .i64 0, .int .i64 0, .int .i64 0, .int .i64 0, .int .i64 0, .int .i64 0, .int .i64 0, .int .i64 0, .int .i64 0, .int .i64 0, .int .i64 0, .int .i64 0, .int .i64 0, .int .i64 0, .int .i64 0, .int .i64 0, .int .i64 0, .int .i64 0, .int .i64 0] 99)) (w.heap.size + 1) 0 spanVals = W at hbW hr hsz hcv q0 q1 q2 q3 q4 q5 q6 q7 q8 q9 q10 q11 q12 ⊢
  clear hW hcv HTH
  unfold Hid
  go_wp2_with fail
  refine (HL.out _).mono ?_
  rintro e w1 ⟨rfl, hb⟩
  have HLO : Hid (∀ k, k < 13 → w1.cell? ⟨w.heap.size + 1, k * 2, none⟩ = some (.int .i64 (loOf k : Nat))) := fun k hk => below_cell hb (by have := hr (k * 2) _ (spanVals_lo k hk); rwa [Nat.zero_add] at this)
  have HHI : Hid (∀ k, k < 13 → w1.cell? ⟨w.heap.size + 1, k * 2 + 1, none⟩ = some (.int .i64 (hiOf k : Nat))) := fun k hk => below_cell hb (by have := hr (k * 2 + 1) _ (spanVals_hi k hk); rwa [Nat.zero_add] at this)
  have HB := Go.Lib.hid (hbW.trans (hb.mono (by omega)))
  clear hb hbW hr hsz q0 q1 q2 q3 q4 q5 q6 q7 q8 q9 q10 q11 q12
  go_wp2
  go_loop [23] (fun i => ∃ k : Nat, k ≤ 13 ∧ i = .int .i64 k) (fun i => 13 - (intOf i).toNat)
  case atStart => exact ⟨0, by omega, rfl⟩
  case round =>
    obtain ⟨k, hk, rfl⟩ := hrel
    by_cases hlt : k < 13
    · have e1 := HLO.out k hlt
      have e2 := HHI.out k hlt
      have e3 := HI.out w1 k hlt
      obtain ⟨b1, b2⟩ := HO.out k hlt
      generalize c.nth k = x at *
      generalize loOf k = lo at *
      generalize hiOf k = hi at *
      go_wp2
      refine ⟨⟨k + 1, by omega, by go_num⟩, by simp [intOf]; omega⟩
    · go_wp2
      go_ret2
      exact ⟨rfl, HB.out⟩
end Go.Proofs.YtdemhabgaimnmaaGreatDoor
