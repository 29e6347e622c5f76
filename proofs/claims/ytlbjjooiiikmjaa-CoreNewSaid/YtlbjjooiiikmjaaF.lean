/- What all cells hold at first: plan.Fresh. -/
import Derived.Test.YtlbjjooiiikmjaaO
import Derived.Deep.RegionWith
namespace Go.Proofs.Ytlbjjooiiikmjaa
open Go.RowKit
set_option maxRecDepth 100000
set_option linter.unusedVariables false

def upd (m : Nat → Nat) (i v : Nat) : Nat → Nat := fun j => if j = i then v else m j
/-- A chain through the places g 0, g 1 ..: each tells the next one's number. -/
def chainM (g : Nat → Nat) (m : Nat → Nat) : Nat → Nat → Nat
  | 0 => m
  | k + 1 => upd (chainM g m k) (g k) (k + 2)

/-- A row of words that a box names. -/
structure RowAt (B : Nat) (w0 : World) (bx r n : Nat) (m : Nat → Nat) (W : World) : Prop where
  bl : Below B w0 W
  hB : B ≤ W.heap.size
  hr : B ≤ r
  ne : bx ≠ r
  b0 : W.cell? ⟨bx, 0, none⟩ = some (.slice (some ⟨r, 0, none⟩) n n)
  c0 : ∀ i, i < n → W.cell? ⟨r, i, none⟩ = some (.int .u64 (m i : Nat))
  cf : ∀ i, i < n → W.frozen? ⟨r, i, none⟩ = false
theorem RowAt.below {B : Nat} {w0 W W' : World} {bx r n : Nat} {m : Nat → Nat} (h : RowAt B w0 bx r n m W) (hb : Below W.heap.size W W') : RowAt B w0 bx r n m W' :=
  ⟨h.bl.trans (hb.mono h.hB), Nat.le_trans h.hB hb.size, h.hr, h.ne, below_cell hb h.b0, fun i hi => below_cell hb (h.c0 i hi), fun i hi => (hb.frozen (cell_lt (h.c0 i hi))).trans (h.cf i hi)⟩
theorem RowAt.set {B : Nat} {w0 W : World} {bx r n : Nat} {m : Nat → Nat} (h : RowAt B w0 bx r n m W) {k : Nat} (hk : k < n) (v : Nat) : RowAt B w0 bx r n (upd m k v) (W.setCell ⟨r, k, none⟩ (.int .u64 (v : Nat))) := by
  refine ⟨h.bl.setCell h.hr _, by simp; exact h.hB, h.hr, h.ne, ?_, ?_, ?_⟩
  · exact (World.cell?_setCell_other _ _ _ _ (by have := h.ne; intro x; cases x; exact this rfl)).trans h.b0
  · intro i hi
    unfold upd
    by_cases e : i = k
    · subst e
      refine (World.cell?_setCell_same _ _ _ (h.c0 i hi)).trans ?_
      simp
    · refine (World.cell?_setCell_other _ _ _ _ (by intro x; cases x; exact e rfl)).trans ?_
      rw [h.c0 i hi, if_neg e]
  · intro i hi; rw [World.frozen?_setCell]; exact h.cf i hi

set_option maxHeartbeats 400000 in
theorem plan_Size {c : Cf} (hok : c.Ok) (p : Nat) (w : World) (h : PlanAt w p c) :
    Calls Try.prog 71 #[.pointer (some ⟨p, 0, none⟩)] w (Qt (.int .i64 c.size) w) := by
  have h17 := h.c17
  have h7 := h.c7
  have hs := hok.connsAt_le
  have hc2 := hok.c2
  have e : IntKind.i64.wrap ((c.connsAt : Int) + c.conns) = (c.size : Nat) := by rw [IntWalk.i64_in _ (by omega)]; unfold Cf.size; omega
  have HS := Go.Lib.hid e
  clear h e
  unfold Cf.size at *
  generalize c.connsAt = cn at *
  go_enter Try.func71, Try.ntmps71
  go_wp2
  go_quiet (fail)
  go_wp2
  go_ret
  refine ⟨?_, _, rfl⟩
  first
    | rw [HS.out]
    | rfl
    | (simp; omega)

set_option maxHeartbeats 4000000 in
theorem fresh1 (c : Cf) (p bx r n : Nat) (g : Nat → Nat) (m : Nat → Nat) (h many f : Nat) (hf : ∀ (args : Array Value) (w : World), (callFunc f args).run Try.prog w = .ok (.enter f args) w)
    (hlink : ∀ (i : Nat) (w : World), i < many → PlanAt w p c → Calls Try.prog f #[.pointer (some ⟨p, 0, none⟩), .int .i64 i] w (Qt (.int .i64 (g i)) w))
    (hg : ∀ i, i < many → g i < n) (hh : h < n) (h1 : 1 ≤ many) (h2 : many ≤ 8192) (hn : n ≤ 1048576) (B : Nat) (w0 w : World) (hp : PlanAt w p c) (hpr : p ≠ r) (hr : RowAt B w0 bx r n m w) :
    Calls Try.prog 72 #[.int .i64 h, .int .i64 many, .func (.func f) #[.pointer (some ⟨p, 0, none⟩)] #[], .pointer (some ⟨bx, 0, none⟩)] w fun e w' => e = .returned (.tuple #[]) ∧ RowAt B w0 bx r n (chainM g (upd m h 1) (many - 1)) w' ∧ PlanAt w' p c := by
  have e0 := hr.b0
  have e1 := hr.c0 h hh
  have e2 := hr.cf h hh
  have l0 := cell_lt e0
  have l1 := cell_lt e1
  have HR := Go.Lib.hid hr
  have HP := Go.Lib.hid hp
  have HL := Go.Lib.hid hlink
  have HG := Go.Lib.hid hg
  have HW := Go.Lib.hid (word_Head 0 0)
  clear hr hp hlink hg
  go_enter Try.func72, Try.ntmps72
  go_wp2
  go_region_with (go_at_call 73; refine (HW.out _ (by omega) (by omega) (by omega)).mono ?_; rintro e w' ⟨rfl, hb0⟩; have hb : Below w.heap.size w w' := (by first | exact hb0 | exact (Below.refl _ _).drew.trans hb0 | exact (Below.refl _ _).drew.drew.trans hb0); clear hb0; have f0 := below_cell hb e0; have f1 := below_cell hb e1; have f2 := (hb.frozen l1).trans e2; have f3 := cell_lt f1)
  all_goals
    have hrow : RowAt B w0 bx r n (upd m h 1) (w'.setCell ⟨r, h, none⟩ (.int .u64 (packed [32, 32] [0, 1]).1)) := (HR.out.below hb).set hh 1
    have hpl : PlanAt (w'.setCell ⟨r, h, none⟩ (.int .u64 (packed [32, 32] [0, 1]).1)) p c := (HP.out.mono (hb.block p (cell_lt HP.out.c0))).mono (Below.heap_setCell _ _ _ _ hpr)
    generalize (w'.setCell ⟨r, h, none⟩ (.int .u64 (packed [32, 32] [0, 1]).1)) = W1 at *
    clear hb f0 f1 f2 f3 e0 e1 e2 l0 l1
    have HROW := Go.Lib.hid hrow
    have HPL := Go.Lib.hid hpl
    clear hrow hpl
    go_wp2
    go_loopw [7] (fun i wr => ∃ j : Nat, j + 1 ≤ many ∧ i = .int .i64 ((j : Int) + 1) ∧ RowAt B w0 bx r n (chainM g (upd m h 1) j) wr ∧ PlanAt wr p c) (fun i _ => many - (intOf i).toNat)
    case atStart => exact ⟨0, h1, rfl, HROW.out, HPL.out⟩
    case round =>
      obtain ⟨j, hj, rfl, hrow, hpl⟩ := hrel
      have HROW' := Go.Lib.hid hrow
      have HPL' := Go.Lib.hid hpl
      by_cases hlt : j + 1 < many
      · have hgj := HG.out j (by omega)
        have e0 := hrow.b0
        have e1 := hrow.c0 _ hgj
        have e2 := hrow.cf _ hgj
        have l0 := cell_lt e0
        have l1 := cell_lt e1
        have s1 : IntKind.i64.wrap (j : Int) = j := IntWalk.i64_in _ (by omega)
        have s3 : IntKind.u64.wrap ((j : Int) + 2) = (j : Int) + 2 := by simp [IntKind.wrap, IntKind.bits, IntKind.signed]; omega
        have s2 : IntKind.i64.wrap ((j : Int) + 1 + 1) = (j : Int) + 2 := by rw [IntWalk.i64_in _ (by omega)]; omega
        clear hrow hpl
        go_wp2
        go_region_with ((first | refine (HL.out j wr (by omega) HPL'.out).mono ?_ | refine (HL.out j wr.drew (by omega) (HPL'.out.mono rfl)).mono ?_); rintro e w' hq; obtain ⟨rfl, hb0⟩ := hq.below; have hb : Below wr.heap.size wr w' := (by first | exact hb0 | exact (Below.refl _ _).drew.trans hb0 | exact (Below.refl _ _).drew.drew.trans hb0); clear hq hb0; have f0 := below_cell hb e0; have f1 := below_cell hb e1; have f2 := (hb.frozen l1).trans e2; have f3 := cell_lt f1)
        all_goals
          have hrow := (HROW'.out.below hb).set hgj (j + 2)
          have hpl : PlanAt (w'.setCell ⟨r, g j, none⟩ (.int .u64 (j + 2 : Nat))) p c := (HPL'.out.mono (hb.block p (cell_lt HPL'.out.c0))).mono (Below.heap_setCell _ _ _ _ hpr)
          have HROW2 := Go.Lib.hid hrow
          have HPL2 := Go.Lib.hid hpl
          clear hrow hpl
          go_wp2
          go_roundw
          case rel => exact ⟨j + 1, by omega, by go_num, HROW2.out, HPL2.out⟩
          case measure => simp [intOf]; omega
      · clear hrow hpl
        have s4 : ((j : Int) + 1 < many) = False := by simp; omega
        go_wp2
        have hj' : many - 1 = j := by omega
        go_end0
        exact ⟨rfl, hj' ▸ HROW'.out, HPL'.out⟩
end Go.Proofs.Ytlbjjooiiikmjaa

