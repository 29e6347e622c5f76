/- Tasks: code that is done step by step. -/
import Derived.Test.YtlbjjooiiikmjaaK
import Derived.Laws.EntriesVeiled
namespace Go.Proofs.Ytlbjjooiiikmjaa
open Go.RowKit
set_option maxRecDepth 100000
set_option linter.unusedVariables false

/-- Nothing was turned but blocks whose label meets P. -/
structure DidP (P : Nat → Prop) (L : Lab) (w : World) (L' : Lab) (w' : World) : Prop where
  os : w'.os = w.os
  tape : w'.tape = w.tape
  output : w'.output = w.output
  size : w.heap.size ≤ w'.heap.size
  block : ∀ b, b < w.heap.size → ¬ P (L b) → w'.heap[b]? = w.heap[b]?
  lab : ∀ b, b < w.heap.size → L' b = L b
theorem DidP.refl (P : Nat → Prop) (L : Lab) (w : World) : DidP P L w L w := ⟨rfl, rfl, rfl, Nat.le_refl _, fun _ _ _ => rfl, fun _ _ => rfl⟩
theorem DidP.trans {P : Nat → Prop} {L L1 L2 : Lab} {w w1 w2 : World} (h : DidP P L w L1 w1) (k : DidP P L1 w1 L2 w2) : DidP P L w L2 w2 :=
  ⟨k.os.trans h.os, k.tape.trans h.tape, k.output.trans h.output, Nat.le_trans h.size k.size,
    fun b hb hl => (k.block b (Nat.lt_of_lt_of_le hb h.size) (by rw [h.lab b hb]; exact hl)).trans (h.block b hb hl),
    fun b hb => (k.lab b (Nat.lt_of_lt_of_le hb h.size)).trans (h.lab b hb)⟩
theorem DidP.mono {P Q : Nat → Prop} {L L1 : Lab} {w w1 : World} (h : DidP P L w L1 w1) (hq : ∀ l, P l → Q l) : DidP Q L w L1 w1 :=
  ⟨h.os, h.tape, h.output, h.size, fun b hb hl => h.block b hb (fun hp => hl (hq _ hp)), h.lab⟩
theorem DidP.of_below {w w' : World} (h : Below w.heap.size w w') (P : Nat → Prop) (L : Lab) : DidP P L w L w' :=
  ⟨h.os, h.tape, h.output, h.size, fun b hb _ => h.block b hb, fun _ _ => rfl⟩
theorem DidP.set {P : Nat → Prop} {L : Lab} {w : World} {a : Addr} (v : Value) (h : P (L a.block)) : DidP P L w L (w.setCell a v) :=
  ⟨rfl, rfl, rfl, by simp [World.setCell], fun b hb hl => Below.heap_setCell _ _ _ _ (by intro e; subst e; exact hl h), fun _ _ => rfl⟩
theorem DidP.cell {P : Nat → Prop} {L L' : Lab} {w w' : World} (h : DidP P L w L' w') {a : Addr} {v : Value} (hc : w.cell? a = some v) (hl : ¬ P (L a.block)) : w'.cell? a = some v :=
  (World.cell?_of_block (h.block a.block (cell_lt hc) hl)).trans hc
theorem DidP.frozen {P : Nat → Prop} {L L' : Lab} {w w' : World} (h : DidP P L w L' w') {a : Addr} {v : Value} (hc : w.cell? a = some v) (hl : ¬ P (L a.block)) : w'.frozen? a = w.frozen? a :=
  World.frozen?_of_block (h.block a.block (cell_lt hc) hl)
/-- What a step of task t may turn: what all share, the task's own, the task's record. -/
def TP (t : Nat) (l : Nat) : Prop := (1 ≤ l ∧ l < 8) ∨ l = 8 + t ∨ l = 5000 + t
theorem Did.toP {t : Nat} {L L' : Lab} {w w' : World} (h : Did t L w L' w') : DidP (TP t) L w L' w' :=
  ⟨h.os, h.tape, h.output, h.size, fun b hb hl => h.block b hb (by unfold TP at hl; omega), h.lab⟩
theorem DidP.ext {t u : Nat} {L L' : Lab} {w w' : World} (h : DidP (TP t) L w L' w') (hne : u ≠ t) (hu : u < 4000) (ht : t < 4000) : Ext u L w L' w' :=
  ⟨h.os, h.tape, h.output, h.size, fun b hb hl => h.block b hb (by unfold TP; omega), h.lab⟩

structure TaskAt (w : World) (L : Lab) (t tb : Nat) (v : Value) (s : Nat) : Prop where
  c0 : w.cell? ⟨tb, 0, none⟩ = some v
  c1 : w.cell? ⟨tb, 1, none⟩ = some (.int .i64 s)
  f0 : w.frozen? ⟨tb, 0, none⟩ = false
  f1 : w.frozen? ⟨tb, 1, none⟩ = false
  lb : L tb = 5000 + t


section
variable {ρ : Type} {cf : Cf} {R : ρ → Arg → St → St × Option (K ρ)} {E : G} {t : Nat}


theorem Good.set_far {L : Lab} {S : St} {w : World} (h : Good E L S w) {a : Addr} (v : Value) (ha : 8 ≤ L a.block) : Good E L S (w.setCell a v) := by
  have hb : ∀ b, L b < 8 → (w.setCell a v).heap[b]? = w.heap[b]? := fun b hl => Below.heap_setCell _ _ _ _ (by intro e; subst e; omega)
  have cc : ∀ b o, L b < 8 → (w.setCell a v).cell? ⟨b, o, none⟩ = w.cell? ⟨b, o, none⟩ := fun b o hl => World.cell?_of_block (a := ⟨b, o, none⟩) (hb b hl)
  have lk := h.lk; have lp := h.lp; have la := h.la; have lc := h.lc
  refine ⟨h.ok, (cc _ _ (by omega)).trans h.k0, (cc _ _ (by omega)).trans h.k1, h.pl.mono (hb _ (by omega)), h.ar.below (hb _ (by omega)) (hb _ (by omega)), h.lg.below (hb _ (by omega)) (fun g hg _ => ⟨hb g (by omega), rfl⟩), ?_, lk, lp, la, lc, fun b hb' => h.new b (by simpa [World.setCell] using hb')⟩
  intro b u hu
  obtain ⟨r1, r2, r3⟩ := h.rg b u hu
  exact ⟨(cc _ _ (by omega)).trans r1, by rw [World.frozen?_setCell]; exact r2, r3⟩
theorem Ext.set {L : Lab} {w : World} {a : Addr} (v : Value) (h0 : L a.block ≠ 0) (h1 : L a.block ≠ 8 + t) : Ext t L w L (w.setCell a v) :=
  ⟨rfl, rfl, rfl, by simp [World.setCell], fun b hb hl => Below.heap_setCell _ _ _ _ (by intro e; subst e; omega), fun _ _ => rfl⟩
theorem CodeSim.value {n : Nat} {L : Lab} {w : World} {v : Value} {k : Option (K ρ)} (h : CodeSim cf R E t (n + 1) L w v k) : v = .nilFunc ∨ ∃ f cap, v = .func (.func f) #[] cap := by
  cases k with
  | none => exact .inl h
  | some κ => obtain ⟨f, cap, h, _⟩ := h; exact .inr ⟨f, cap, h⟩

end
end Go.Proofs.Ytlbjjooiiikmjaa

