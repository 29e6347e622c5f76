/- Tasks: code that is done step by step. -/
import Derived.Test.YtlbjjooiiikmjaaGreatK
import Derived.Laws.EntriesVeiled
namespace Go.Proofs.YtlbjjooiiikmjaaGreat
open Go.RowKit
set_option maxRecDepth 100000
set_option linter.unusedVariables false

/-- Nothing was turned but blocks whose label meets P. -/
structure DidP (P : Nat → Prop) (L : Lab) (w : World) (L' : Lab) (w' : World) : Prop where
  os : w'.os = w.os
  tape : w'.tape = w.tape
  output : w'.output = w.output
  size : w.heap.size ≤ w'.heap.size
  block : ∀ b, b < w.heap.size → ¬ P (L b) → w'.heap[b]? = w.heap[b]?
  lab : ∀ b, b < w.heap.size → L' b = L b
theorem DidP.refl (P : Nat → Prop) (L : Lab) (w : World) : DidP P L w L w := ⟨rfl, rfl, rfl, Nat.le_refl _, fun _ _ _ => rfl, fun _ _ => rfl⟩
theorem DidP.trans {P : Nat → Prop} {L L1 L2 : Lab} {w w1 w2 : World} (h : DidP P L w L1 w1) (k : DidP P L1 w1 L2 w2) : DidP P L w L2 w2 :=
  ⟨k.os.trans h.os, k.tape.trans h.tape, k.output.trans h.output, Nat.le_trans h.size k.size,
    fun b hb hl => (k.block b (Nat.lt_of_lt_of_le hb h.size) (by rw [h.lab b hb]; exact hl)).trans (h.block b hb hl),
    fun b hb => (k.lab b (Nat.lt_of_lt_of_le hb h.size)).trans (h.lab b hb)⟩
theorem DidP.mono {P Q : Nat → Prop} {L L1 : Lab} {w w1 : World} (h : DidP P L w L1 w1) (hq : ∀ l, P l → Q l) : DidP Q L w L1 w1 :=
  ⟨h.os, h.tape, h.output, h.size, fun b hb hl => h.block b hb (fun hp => hl (hq _ hp)), h.lab⟩
theorem DidP.of_below {w w' : World} (h : Below w.heap.size w w') (P : Nat → Prop) (L : Lab) : DidP P L w L w' :=
  ⟨h.os, h.tape, h.output, h.size, fun b hb _ => h.block b hb, fun _ _ => rfl⟩
theorem DidP.set {P : Nat → Prop} {L : Lab} {w : World} {a : Addr} (v : Value) (h : P (L a.block)) : DidP P L w L (w.setCell a v) :=
  ⟨rfl, rfl, rfl, by simp [World.setCell], fun b hb hl => Below.heap_setCell _ _ _ _ (by intro e; subst e; exact hl h), fun _ _ => rfl⟩
theorem DidP.cell {P : Nat → Prop} {L L' : Lab} {w w' : World} (h : DidP P L w L' w') {a : Addr} {v : Value} (hc : w.cell? a = some v) (hl : ¬ P (L a.block)) : w'.cell? a = some v :=
  (World.cell?_of_block (h.block a.block (cell_lt hc) hl)).trans hc
theorem DidP.frozen {P : Nat → Prop} {L L' : Lab} {w w' : World} (h : DidP P L w L' w') {a : Addr} {v : Value} (hc : w.cell? a = some v) (hl : ¬ P (L a.block)) : w'.frozen? a = w.frozen? a :=
  World.frozen?_of_block (h.block a.block (cell_lt hc) hl)
/-- What a step of task t may turn: what all share, the task's own, the task's record. -/
def TP (t : Nat) (l : Nat) : Prop := (1 ≤ l ∧ l < 8) ∨ l = 8 + t ∨ l = 5000 + t
theorem Did.toP {t : Nat} {L L' : Lab} {w w' : World} (h : Did t L w L' w') : DidP (TP t) L w L' w' :=
  ⟨h.os, h.tape, h.output, h.size, fun b hb hl => h.block b hb (by unfold TP at hl; omega), h.lab⟩
theorem DidP.ext {t u : Nat} {L L' : Lab} {w w' : World} (h : DidP (TP t) L w L' w') (hne : u ≠ t) (hu : u < 4000) (ht : t < 4000) : Ext u L w L' w' :=
  ⟨h.os, h.tape, h.output, h.size, fun b hb hl => h.block b hb (by unfold TP; omega), h.lab⟩

structure TaskAt (w : World) (L : Lab) (t tb : Nat) (v : Value) (s : Nat) : Prop where
  c0 : w.cell? ⟨tb, 0, none⟩ = some v
  c1 : w.cell? ⟨tb, 1, none⟩ = some (.int .i64 s)
  f0 : w.frozen? ⟨tb, 0, none⟩ = false
  f1 : w.frozen? ⟨tb, 1, none⟩ = false
  lb : L tb = 5000 + t

set_option maxHeartbeats 400000 in
theorem ended_no (tb : Nat) (f : FuncId) (cap : Array Value) (w : World) (h : w.cell? ⟨tb, 0, none⟩ = some (.func (.func f) #[] cap)) :
    Calls Tryz.prog 49 #[.pointer (some ⟨tb, 0, none⟩)] w fun e w' => e = .returned (.bool false) ∧ w' = w := by
  have hrun : Sem.run Tryz.prog (binOp BinOp.eql 48 (Value.func (Fn.func f) #[] cap) Value.nilFunc) w = .ok (.bool false) w := by kernel_rfl
  go_enter Tryz.func49, Tryz.ntmps49
  go_wp2
  go_ret
  exact ⟨rfl, rfl⟩
set_option maxHeartbeats 400000 in
theorem ended_yes (tb : Nat) (w : World) (h : w.cell? ⟨tb, 0, none⟩ = some .nilFunc) :
    Calls Tryz.prog 49 #[.pointer (some ⟨tb, 0, none⟩)] w fun e w' => e = .returned (.bool true) ∧ w' = w := by
  have hrun : Sem.run Tryz.prog (binOp BinOp.eql 48 Value.nilFunc Value.nilFunc) w = .ok (.bool true) w := by kernel_rfl
  go_enter Tryz.func49, Tryz.ntmps49
  go_wp2
  go_ret
  exact ⟨rfl, rfl⟩

section
variable {ρ : Type} {cf : Cf} {R : ρ → Arg → St → St × Option (K ρ)} {E : G} {t : Nat}

theorem ended_any {n : Nat} {L : Lab} {w : World} {tb : Nat} {v : Value} {k : Option (K ρ)} (hc : w.cell? ⟨tb, 0, none⟩ = some v) (hk : CodeSim cf R E t (n + 1) L w v k) :
    Calls Tryz.prog 49 #[.pointer (some ⟨tb, 0, none⟩)] w fun e w' => e = .returned (.bool k.isNone) ∧ w' = w := by
  cases k with
  | none => exact ended_yes tb w (by rw [hc]; exact congrArg some hk)
  | some κ =>
    obtain ⟨f, cap, rfl, _⟩ := hk
    exact ended_no tb f cap w hc

theorem Good.set_far {L : Lab} {S : St} {w : World} (h : Good E L S w) {a : Addr} (v : Value) (ha : 8 ≤ L a.block) : Good E L S (w.setCell a v) := by
  have hb : ∀ b, L b < 8 → (w.setCell a v).heap[b]? = w.heap[b]? := fun b hl => Below.heap_setCell _ _ _ _ (by intro e; subst e; omega)
  have cc : ∀ b o, L b < 8 → (w.setCell a v).cell? ⟨b, o, none⟩ = w.cell? ⟨b, o, none⟩ := fun b o hl => World.cell?_of_block (a := ⟨b, o, none⟩) (hb b hl)
  have lk := h.lk; have lp := h.lp; have la := h.la; have lc := h.lc
  refine ⟨h.ok, (cc _ _ (by omega)).trans h.k0, (cc _ _ (by omega)).trans h.k1, h.pl.mono (hb _ (by omega)), h.ar.below (hb _ (by omega)) (hb _ (by omega)), h.lg.below (hb _ (by omega)) (fun g hg _ => ⟨hb g (by omega), rfl⟩), ?_, lk, lp, la, lc, fun b hb' => h.new b (by simpa [World.setCell] using hb')⟩
  intro b u hu
  obtain ⟨r1, r2, r3⟩ := h.rg b u hu
  exact ⟨(cc _ _ (by omega)).trans r1, by rw [World.frozen?_setCell]; exact r2, r3⟩
theorem Ext.set {L : Lab} {w : World} {a : Addr} (v : Value) (h0 : L a.block ≠ 0) (h1 : L a.block ≠ 8 + t) : Ext t L w L (w.setCell a v) :=
  ⟨rfl, rfl, rfl, by simp [World.setCell], fun b hb hl => Below.heap_setCell _ _ _ _ (by intro e; subst e; omega), fun _ _ => rfl⟩
theorem CodeSim.value {n : Nat} {L : Lab} {w : World} {v : Value} {k : Option (K ρ)} (h : CodeSim cf R E t (n + 1) L w v k) : v = .nilFunc ∨ ∃ f cap, v = .func (.func f) #[] cap := by
  cases k with
  | none => exact .inl h
  | some κ => obtain ⟨f, cap, h, _⟩ := h; exact .inr ⟨f, cap, h⟩

set_option maxHeartbeats 1000000 in
theorem task_step {n : Nat} {L : Lab} {w : World} {tb s : Nat} {v : Value} {κ : K ρ} {S : St} (hg : Good E L S w) (ht : TaskAt w L t tb v s) (hk : CodeSim cf R E t (n + 2) L w v (some κ))
    (hbd : Bd (step cf R κ S).1) (hs : s < 4611686018427387904) (htt : t < 4000) :
    Calls Tryz.prog 48 #[.pointer (some ⟨tb, 0, none⟩)] w fun e w' =>
      ∃ v' L', e = .returned (.bool (step cf R κ S).2.isNone) ∧ DidP (TP t) L w L' w' ∧ Good E L' (step cf R κ S).1 w' ∧ TaskAt w' L' t tb v' (s + 1) ∧ CodeSim cf R E t (n + 1) L' w' v' (step cf R κ S).2 := by
  obtain ⟨f, cap, rfl, hf, hk⟩ := hk
  obtain ⟨c0, c1, f0, f1, lb⟩ := ht
  have htb : ¬ TP t (L tb) → False := by unfold TP; omega
  have HK := Go.Lib.hid hk
  have hf' : ∀ (args : Array Value) (w : World), (callFunc f args).run Tryz.prog w = .ok (.enter f args) w := hf
  have hen := ended_no tb f cap w c0
  have HEN := Go.Lib.hid hen
  clear hk hen
  go_enter Tryz.func48, Tryz.ntmps48
  go_wp2_with fail
  refine HEN.out.mono ?_
  rintro e w1 ⟨rfl, rfl⟩
  go_wp2_with fail
  have hx1 : Ext t L w1 L (w1.setCell ⟨tb, 1, none⟩ (.int .i64 ((s : Int) + 1))) := Ext.set _ (by show L tb ≠ 0; omega) (by show L tb ≠ 8 + t; omega)
  refine (HK.out L _ S hx1 (hg.set_far _ (by show 8 ≤ L tb; omega)) hbd).mono ?_
  rintro e w2 ⟨v', L2, rfl, hd, hg2, hc2⟩
  have hlt : tb < w1.heap.size := cell_lt c0
  have hl2 : L2 tb = 5000 + t := (hd.lab tb (by simpa using hlt)).trans lb
  have hbl : w2.heap[tb]? = (w1.setCell ⟨tb, 1, none⟩ (.int .i64 ((s : Int) + 1))).heap[tb]? := hd.block tb (by simpa using hlt) (.inr ⟨by omega, by omega⟩)
  have g0 : w2.cell? ⟨tb, 0, none⟩ = some (.func (.func f) #[] cap) := by
    rw [World.cell?_of_block (a := ⟨tb, 0, none⟩) hbl, World.cell?_setCell_other _ _ _ _ (by simp)]; exact c0
  have g1 : w2.cell? ⟨tb, 1, none⟩ = some (.int .i64 ((s : Int) + 1)) := by
    rw [World.cell?_of_block (a := ⟨tb, 1, none⟩) hbl, World.cell?_setCell_same _ _ _ c1]
  have k0 : w2.frozen? ⟨tb, 0, none⟩ = false := by rw [World.frozen?_of_block (a := ⟨tb, 0, none⟩) hbl, World.frozen?_setCell]; exact f0
  have k1 : w2.frozen? ⟨tb, 1, none⟩ = false := by rw [World.frozen?_of_block (a := ⟨tb, 1, none⟩) hbl, World.frozen?_setCell]; exact f1
  have hd1 : DidP (TP t) L w1 L (w1.setCell ⟨tb, 1, none⟩ (.int .i64 ((s : Int) + 1))) := DidP.set _ (.inr (.inr lb))
  have hdd := Go.Lib.hid ((hd1.trans hd.toP).trans (DidP.set (a := ⟨tb, 0, none⟩) v' (.inr (.inr hl2))))
  have hgg := Go.Lib.hid (hg2.set_far (a := ⟨tb, 0, none⟩) v' (by show 8 ≤ L2 tb; omega))
  have hcc := Go.Lib.hid (CodeSim.ext cf R E t hc2 (Ext.set (a := ⟨tb, 0, none⟩) v' (by show L2 tb ≠ 0; omega) (by show L2 tb ≠ 8 + t; omega)))
  have htt := Go.Lib.hid (TaskAt.mk (w := w2.setCell ⟨tb, 0, none⟩ v') (L := L2) (t := t) (tb := tb) (v := v') (s := s + 1) (by rw [World.cell?_setCell_same _ _ _ g0]) (by rw [World.cell?_setCell_other _ _ _ _ (by simp)]; exact g1) (by rw [World.frozen?_setCell]; exact k0) (by rw [World.frozen?_setCell]; exact k1) hl2)
  have hen2 := Go.Lib.hid (ended_any htt.out.c0 hcc.out)
  have hval := CodeSim.value hc2
  clear hbl hl2 hd1 hx1 hbd hd hg2 hc2
  rcases hval with rfl | ⟨f2, cap2, rfl⟩
  · go_wp2_with (refine hen2.out.mono ?_; rintro e w3 ⟨rfl, rfl⟩)
    go_ret
    exact ⟨_, L2, rfl, hdd.out, hgg.out, htt.out, hcc.out⟩
  · go_wp2_with (refine hen2.out.mono ?_; rintro e w3 ⟨rfl, rfl⟩)
    go_ret
    exact ⟨_, L2, rfl, hdd.out, hgg.out, htt.out, hcc.out⟩
end
end Go.Proofs.YtlbjjooiiikmjaaGreat
