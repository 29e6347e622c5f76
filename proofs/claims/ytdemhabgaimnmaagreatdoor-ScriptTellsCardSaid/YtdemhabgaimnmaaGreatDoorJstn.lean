/- script.lay of an Invoke, of any entry. -/
import Derived.Test.YtdemhabgaimnmaaGreatDoorJstm
namespace Go.Proofs.YtdemhabgaimnmaaGreatDoor
open Go.RowKit
set_option maxRecDepth 100000
set_option linter.unusedVariables false

theorem widE_in (i : Nat) : widE i = 1 ∨ widE i = 2 ∨ widE i = 4 := by
  unfold widE
  by_cases h3 : i = 3
  · rw [if_pos h3]; omega
  · rw [if_neg h3]
    by_cases h6 : i = 6
    · rw [if_pos h6]; omega
    · rw [if_neg h6]; omega
theorem get_same (x0 x1 x2 y0 y1 y2 n g t r u : Int) (i : Nat) (h3 : 3 ≤ i) : (⟨x0, x1, x2, n, g, t, r, u⟩ : Ent).get i = (⟨y0, y1, y2, n, g, t, r, u⟩ : Ent).get i := by
  unfold Ent.get
  match i, h3 with
  | 3, _ | 4, _ | 5, _ | 6, _ => rfl
  | _ + 7, _ => rfl
theorem row_at (E1 : Ent) (i : Nat) (h3 : 3 ≤ i) (h7 : i ≤ 7) : (#[.int .i64 E1.kind, .int .i64 E1.worker, .int .i64 E1.op, .int .i64 E1.node, .int .i64 E1.gen, .int .i64 E1.time, .int .i64 E1.arg, .int .i64 E1.user] : Array Value)[i]? = some (.int .i64 (E1.get i)) := by
  match i, h3, h7 with
  | 3, _, _ | 4, _, _ | 5, _, _ | 6, _, _ | 7, _, _ => rfl
theorem row_set (E1 : Ent) (i : Nat) (m : Int) (h3 : 3 ≤ i) (h7 : i ≤ 7) : (#[.int .i64 E1.kind, .int .i64 E1.worker, .int .i64 E1.op, .int .i64 E1.node, .int .i64 E1.gen, .int .i64 E1.time, .int .i64 E1.arg, .int .i64 E1.user] : Array Value).setIfInBounds i (.int .i64 m) = #[.int .i64 (E1.set i m).kind, .int .i64 (E1.set i m).worker, .int .i64 (E1.set i m).op, .int .i64 (E1.set i m).node, .int .i64 (E1.set i m).gen, .int .i64 (E1.set i m).time, .int .i64 (E1.set i m).arg, .int .i64 (E1.set i m).user] := ent_set E1 i m h3 h7
/-- The numbers of an entry are int's. -/
def EntR (e : Ent) : Prop := ∀ i, 3 ≤ i → i ≤ 7 → -9223372036854775808 ≤ e.get i ∧ e.get i < 9223372036854775808

set_option maxHeartbeats 4000000 in
theorem script_lay1no (a o n g t r u : Int) (hno : ¬ ((0 ≤ o ∧ o < 64) ∧ 0 ≤ a ∧ a < 256)) (l : List Nat) (hl : l.length ≤ 800000) (base : Nat) (v : Value) (w : World) (ho : OwnB base w v l) (hb : base ≤ w.heap.size) :
    Calls Tryz.prog 41 #[v, .agg #[.int .i64 1, .int .i64 a, .int .i64 o, .int .i64 n, .int .i64 g, .int .i64 t, .int .i64 r, .int .i64 u]] w (LayPost base l ⟨1, a, o, n, g, t, r, u⟩ w) := by
  obtain ⟨a0, q0, rfl⟩ := own_form ho
  have HN := Go.Lib.hid hno
  have HO := Go.Lib.hid (World.ownsRow.alloc ho (.cells #[.int .i64 1, .int .i64 a, .int .i64 o, .int .i64 n, .int .i64 g, .int .i64 t, .int .i64 r, .int .i64 u] 56))
  have HT := Go.Lib.hid ((OntoT.refl base 5 w).alloc hb (.cells #[.int .i64 1, .int .i64 a, .int .i64 o, .int .i64 n, .int .i64 g, .int .i64 t, .int .i64 r, .int .i64 u] 56))
  have HQ := Go.Lib.hid (heap_alloc_new w (.cells #[.int .i64 1, .int .i64 a, .int .i64 o, .int .i64 n, .int .i64 g, .int .i64 t, .int .i64 r, .int .i64 u] 56))
  have hsz : base ≤ (w.alloc (.cells #[.int .i64 1, .int .i64 a, .int .i64 o, .int .i64 n, .int .i64 g, .int .i64 t, .int .i64 r, .int .i64 u] 56)).heap.size := by rw [World.size_alloc]; omega
  clear ho
  go_enter Tryz.func41, Tryz.ntmps41
  go_wp2
  generalize (w.alloc (.cells #[.int .i64 1, .int .i64 a, .int .i64 o, .int .i64 n, .int .i64 g, .int .i64 t, .int .i64 r, .int .i64 u] 56)) = W0 at *
  have c0 : W0.cell? ⟨w.heap.size, 0, none⟩ = some (.int .i64 1) := cell_of_row _ _ _ _ _ _ HQ.out
  have c1 : W0.cell? ⟨w.heap.size, 1, none⟩ = some (.int .i64 a) := cell_of_row _ _ _ _ _ _ HQ.out
  have c2 : W0.cell? ⟨w.heap.size, 2, none⟩ = some (.int .i64 o) := cell_of_row _ _ _ _ _ _ HQ.out
  have c3 : W0.cell? ⟨w.heap.size, 3, none⟩ = some (.int .i64 n) := cell_of_row _ _ _ _ _ _ HQ.out
  have c4 : W0.cell? ⟨w.heap.size, 4, none⟩ = some (.int .i64 g) := cell_of_row _ _ _ _ _ _ HQ.out
  have c5 : W0.cell? ⟨w.heap.size, 5, none⟩ = some (.int .i64 t) := cell_of_row _ _ _ _ _ _ HQ.out
  have c6 : W0.cell? ⟨w.heap.size, 6, none⟩ = some (.int .i64 r) := cell_of_row _ _ _ _ _ _ HQ.out
  have c7 : W0.cell? ⟨w.heap.size, 7, none⟩ = some (.int .i64 u) := cell_of_row _ _ _ _ _ _ HQ.out
  go_quiet (fail)
  have hbd := below_drewN (w := W0) nq
  replace HO := Go.Lib.hid (own_below HO.out hbd)
  replace HT := Go.Lib.hid (HT.out.then hsz hbd)
  replace HQ := Go.Lib.hid (row_below hbd HQ.out)
  replace hsz := Nat.le_trans hsz hbd.size
  clear c0 c1 c2 c3 c4 c5 c6 c7 hbd
  generalize W0.drewN nq = W1 at *
  have HFI : Hid (∀ w', OntoT base 5 w w' → LayPost base l ⟨1, a, o, n, g, t, r, u⟩ w (.returned (.tuple #[.slice none 0 0, .bool false])) w') := Go.Lib.hid (fun w' h => LayPost.no h (by rw [layP1, if_neg (fun q => HN.out q.1)]))
  by_cases h0 : o < 0
  · clear hno
    go_wp2
    go_ret2
    exact HFI.out _ HT.out
  · have g0 : (o < 0) = False := by simp [h0]
    by_cases h1 : o > 63
    · have g1 : (63 < o) = True := by simp; omega
      have g2 : (o > 63) = True := by simp [h1]
      clear hno h0 h1
      go_wp2
      go_ret2
      exact HFI.out _ HT.out
    · have g1 : (63 < o) = False := by simp; omega
      have g2 : (o > 63) = False := by simp; omega
      by_cases h2 : a < 0
      · have g3 : (a < 0) = True := by simp [h2]
        clear hno h0 h1 h2
        go_wp2
        go_ret2
        exact HFI.out _ HT.out
      · have g3 : (a < 0) = False := by simp [h2]
        have g4 : (255 < a) = True := by simp; omega
        have g5 : (a > 255) = True := by simp; omega
        clear hno h0 h1 h2
        go_wp2
        go_ret2
        exact HFI.out _ HT.out

set_option maxHeartbeats 4000000 in
theorem script_lay1 (A : Nat) (hA : A < 256) (O : Nat) (hO : O < 64) (n g t r u : Int) (hrg : EntR ⟨1, (A : Nat), (O : Nat), n, g, t, r, u⟩) (l : List Nat) (hl : l.length ≤ 800000) (base : Nat) (v : Value) (w : World) (ho : OwnB base w v l) (hb : base ≤ w.heap.size) :
    Calls Tryz.prog 41 #[v, .agg #[.int .i64 1, .int .i64 (A : Nat), .int .i64 (O : Nat), .int .i64 n, .int .i64 g, .int .i64 t, .int .i64 r, .int .i64 u]] w (LayPost base l ⟨1, (A : Nat), (O : Nat), n, g, t, r, u⟩ w) := by
  obtain ⟨a0, q0, rfl⟩ := own_form ho
  obtain ⟨y, hy⟩ : ∃ y, y = O * 4 + 3 := ⟨_, rfl⟩
  have f1 : bits .or .i64 ((O : Int) * 4) 3 = (y : Int) := by rw [hy]; exact i64_or3 O hO
  have f2 : ((A : Int) > 255) = False := by simp; omega
  have f3 : ((255 : Int) < (A : Int)) = False := by simp; omega
  have f2o : ((O : Int) > 63) = False := by simp; omega
  have f3o : ((63 : Int) < (O : Int)) = False := by simp; omega
  have f4 : (y : Int) < 256 := by omega
  have f5 : (0 : Int) ≤ (A : Int) := by omega
  have f6 : (A : Int) < 256 := by omega
  have f7 : (0 : Int) ≤ (O : Int) := by omega
  have f8 : (O : Int) < 64 := by omega
  have HY := Go.Lib.hid hy
  have HRG := Go.Lib.hid hrg
  have HP := Go.Lib.hid (fun W => script_partsT O W)
  obtain ⟨E0, hE0⟩ : ∃ E0 : Ent, E0 = ⟨1, (A : Nat), (O : Nat), n, g, t, r, u⟩ := ⟨_, rfl⟩
  have HE0 := Go.Lib.hid hE0
  have HLP : Hid (∀ e w', LayPost base l E0 w e w' → LayPost base l ⟨1, (A : Nat), (O : Nat), n, g, t, r, u⟩ w e w') := Go.Lib.hid (fun e w' h => by rwa [hE0] at h)
  have HLY : Hid (layP E0 = if fitsE (shapeP O) E0 ∧ zE (shapeP O) ⟨1, 0, 0, n, g, t, r, u⟩ = ⟨1, 0, 0, 0, 0, 0, 0, 0⟩ then some (y :: A :: putsE (shapeP O) E0) else none) := Go.Lib.hid (by
    rw [hE0, layP1]
    have e1 : ((O : Nat) : Int).toNat = O := by omega
    have e2 : ((A : Nat) : Int).toNat = A := by omega
    have e3 : ((O : Int) * 4 + 3).toNat = y := by omega
    rw [e1, e2, e3]
    have hl := lay_eq O (A : Nat) (O : Nat) n g t r u
    by_cases h : fitsE (shapeP O) ⟨1, (A : Nat), (O : Nat), n, g, t, r, u⟩ ∧ zE (shapeP O) ⟨1, 0, 0, n, g, t, r, u⟩ = ⟨1, 0, 0, 0, 0, 0, 0, 0⟩
    · rw [if_pos h, if_pos ⟨⟨⟨by omega, by omega⟩, by omega, by omega⟩, h.1, hl.1 h.2⟩]
    · rw [if_neg h, if_neg (fun q => h ⟨q.2.1, hl.2 q.2.2⟩)])
  have HGT : Hid (∀ i, 3 ≤ i → (⟨1, 0, 0, n, g, t, r, u⟩ : Ent).get i = E0.get i) := Go.Lib.hid (fun i hi => by rw [hE0]; exact get_same _ _ _ _ _ _ n g t r u i hi)
  clear hy hrg hE0
  have HO := Go.Lib.hid (World.ownsRow.alloc ho (.cells #[.int .i64 1, .int .i64 (A : Nat), .int .i64 (O : Nat), .int .i64 n, .int .i64 g, .int .i64 t, .int .i64 r, .int .i64 u] 56))
  have HT := Go.Lib.hid ((OntoT.refl base 5 w).alloc hb (.cells #[.int .i64 1, .int .i64 (A : Nat), .int .i64 (O : Nat), .int .i64 n, .int .i64 g, .int .i64 t, .int .i64 r, .int .i64 u] 56))
  have HQ := Go.Lib.hid (heap_alloc_new w (.cells #[.int .i64 1, .int .i64 (A : Nat), .int .i64 (O : Nat), .int .i64 n, .int .i64 g, .int .i64 t, .int .i64 r, .int .i64 u] 56))
  have hsz : base ≤ (w.alloc (.cells #[.int .i64 1, .int .i64 (A : Nat), .int .i64 (O : Nat), .int .i64 n, .int .i64 g, .int .i64 t, .int .i64 r, .int .i64 u] 56)).heap.size := by rw [World.size_alloc]; omega
  clear ho
  go_enter Tryz.func41, Tryz.ntmps41
  go_wp2
  generalize (w.alloc (.cells #[.int .i64 1, .int .i64 (A : Nat), .int .i64 (O : Nat), .int .i64 n, .int .i64 g, .int .i64 t, .int .i64 r, .int .i64 u] 56)) = W0 at *
  have c0 : W0.cell? ⟨w.heap.size, 0, none⟩ = some (.int .i64 1) := cell_of_row _ _ _ _ _ _ HQ.out
  have c1 : W0.cell? ⟨w.heap.size, 1, none⟩ = some (.int .i64 (A : Nat)) := cell_of_row _ _ _ _ _ _ HQ.out
  have c2 : W0.cell? ⟨w.heap.size, 2, none⟩ = some (.int .i64 (O : Nat)) := cell_of_row _ _ _ _ _ _ HQ.out
  have c3 : W0.cell? ⟨w.heap.size, 3, none⟩ = some (.int .i64 n) := cell_of_row _ _ _ _ _ _ HQ.out
  have c4 : W0.cell? ⟨w.heap.size, 4, none⟩ = some (.int .i64 g) := cell_of_row _ _ _ _ _ _ HQ.out
  have c5 : W0.cell? ⟨w.heap.size, 5, none⟩ = some (.int .i64 t) := cell_of_row _ _ _ _ _ _ HQ.out
  have c6 : W0.cell? ⟨w.heap.size, 6, none⟩ = some (.int .i64 r) := cell_of_row _ _ _ _ _ _ HQ.out
  have c7 : W0.cell? ⟨w.heap.size, 7, none⟩ = some (.int .i64 u) := cell_of_row _ _ _ _ _ _ HQ.out
  go_quiet (fail)
  have hbd := below_drewN (w := W0) nq
  replace HO := Go.Lib.hid (own_below HO.out hbd)
  replace HT := Go.Lib.hid (HT.out.then hsz hbd)
  replace HQ := Go.Lib.hid (row_below hbd HQ.out)
  replace hsz := Nat.le_trans hsz hbd.size
  clear c0 c1 c2 c3 c4 c5 c6 c7 hbd
  generalize W0.drewN nq = W1 at *
  have HNW := Go.Lib.hid (kb_cells (w := W1) (cs := #[.int .u8 ((y : Nat)), .int .u8 ((A : Nat))]) (t := 5) (l := [y, A]) rfl (by simp))
  have HTA := Go.Lib.hid (HT.out.alloc hsz (.cells #[.int .u8 ((y : Nat)), .int .u8 ((A : Nat))] 5))
  have HOA := Go.Lib.hid (World.ownsRow.alloc HO.out (.cells #[.int .u8 ((y : Nat)), .int .u8 ((A : Nat))] 5))
  have HQA := Go.Lib.hid (row_below ((Below.refl _ W1).alloc (Nat.le_refl _) (.cells #[.int .u8 ((y : Nat)), .int .u8 ((A : Nat))] 5)) HQ.out)
  have hsa : base ≤ (W1.alloc (.cells #[.int .u8 ((y : Nat)), .int .u8 ((A : Nat))] 5)).heap.size := by rw [World.size_alloc]; omega
  clear HO HT HQ
  go_wp2_with (first
    | (at_builtin; refine wpList_append_kb rfl _ _ rfl base _ l rfl HOA.out _ _ [y, A] rfl HNW.out (by show l.length + 2 ≤ 1000000; omega) hsa ?_; intro v9 w9 hown9 hto9; have HO9 : Hid (OwnB base w9 v9 (l ++ [y, A])) := Go.Lib.hid hown9; have HT9 := Go.Lib.hid (HTA.out.trans hto9); have HQ9 := Go.Lib.hid (hto9.keep _ _ _ _ (by decide) HQA.out); clear hown9 hto9 HTA HOA HQA HNW; have c1 : w9.cell? ⟨w.heap.size, 1, none⟩ = some (.int .i64 (A : Nat)) := cell_of_row _ _ _ _ _ _ HQ9.out; have z1 : w9.frozen? ⟨w.heap.size, 1, none⟩ = false := frozen_of_row _ _ _ _ _ HQ9.out; have c2 : w9.cell? ⟨w.heap.size, 2, none⟩ = some (.int .i64 (O : Nat)) := cell_of_row _ _ _ _ _ _ HQ9.out; have z2 : w9.frozen? ⟨w.heap.size, 2, none⟩ = false := frozen_of_row _ _ _ _ _ HQ9.out)
    | fail)
  obtain ⟨Z0, hZ0⟩ : ∃ Z0 : Ent, Z0 = ⟨1, 0, 0, n, g, t, r, u⟩ := ⟨_, rfl⟩
  have hq10 := row_set0 (j := 2) (v := .int .i64 0) (row_set0 (j := 1) (v := .int .i64 0) HQ9.out)
  have HQ10 : Hid (((w9.setCell ⟨w.heap.size, 1, none⟩ (.int .i64 0)).setCell ⟨w.heap.size, 2, none⟩ (.int .i64 0)).heap[w.heap.size]? = some (.cells #[.int .i64 Z0.kind, .int .i64 Z0.worker, .int .i64 Z0.op, .int .i64 Z0.node, .int .i64 Z0.gen, .int .i64 Z0.time, .int .i64 Z0.arg, .int .i64 Z0.user] 56)) := Go.Lib.hid (by rw [hZ0]; exact hq10)
  have HO10 : Hid (OwnB base ((w9.setCell ⟨w.heap.size, 1, none⟩ (.int .i64 0)).setCell ⟨w.heap.size, 2, none⟩ (.int .i64 0)) v9 (l ++ [y, A])) := Go.Lib.hid (own_set (own_set HO9.out HQ9.out (by decide)) (row_set0 (j := 1) (v := .int .i64 0) HQ9.out) (by decide))
  have HT10 := Go.Lib.hid ((HT9.out.set (g9 := w.heap.size) (i := 1) (u := .int .i64 0) (Nat.le_refl _) hb).set (g9 := w.heap.size) (i := 2) (u := .int .i64 0) (Nat.le_refl _) hb)
  rw [← hZ0] at HLY HGT
  clear HQ9 HO9 HT9 c1 z1 c2 z2 hq10 hZ0
  generalize ((w9.setCell ⟨w.heap.size, 1, none⟩ (.int .i64 0)).setCell ⟨w.heap.size, 2, none⟩ (.int .i64 0)) = w10 at *
  refine (HP.out _).mono ?_
  rintro e w11 ⟨vp, rfl, hpa, hb11⟩
  have HZ10 : Hid (w.heap.size + 1 ≤ w10.heap.size) := Go.Lib.hid (by have := heap_lt0 HQ10.out; omega)
  have HPA : Hid (PartsT (w.heap.size + 1) w11 vp (shapeP O)) := Go.Lib.hid ⟨(by
    obtain ⟨p, c, e, h⟩ := hpa.1
    refine ⟨p, c, e, fun j i k hj => ?_⟩
    obtain ⟨g, h1, h2⟩ := h j i k hj
    exact ⟨g, Nat.le_trans HZ10.out h1, h2⟩), fun g n c e => ⟨Nat.le_trans HZ10.out (hpa.2 g n c e).1, (hpa.2 g n c e).2⟩⟩
  have HQ11 := Go.Lib.hid (row_below hb11 HQ10.out)
  have HO11 := Go.Lib.hid (own_below HO10.out hb11)
  have hsz10 : base ≤ w10.heap.size := by have := HZ10.out; omega
  have HT11 := Go.Lib.hid (HT10.out.then hsz10 hb11)
  obtain ⟨pp, cp, rfl, _⟩ := id hpa.1
  have HSD : Hid (∀ j, j < (shapeP O).length → ∃ i, 3 ≤ i ∧ i ≤ 7 ∧ (shapeP O)[j]? = some (i, widE i)) := Go.Lib.hid (fun j hj => by obtain ⟨i, h3, h7, h, _⟩ := strE_at O j hj; exact ⟨i, h3, h7, h⟩)
  have HTK : Hid ((shapeP O).take (shapeP O).length = shapeP O) := Go.Lib.hid (List.take_length)
  have hlen := shape_len O
  generalize hN : (shapeP O).length = N at *
  have HN := Go.Lib.hid hN
  clear hN hpa hb11 HQ10 HO10 HT10 hsz10
  go_wp2
  go_loopw [0, 73] (fun u0 u73 wr => ∃ (j : Nat) (cur : List Nat) (E1 : Ent), u73 = .int .i64 (j : Nat) ∧ j ≤ N ∧ wr.heap[w.heap.size]? = some (.cells #[.int .i64 E1.kind, .int .i64 E1.worker, .int .i64 E1.op, .int .i64 E1.node, .int .i64 E1.gen, .int .i64 E1.time, .int .i64 E1.arg, .int .i64 E1.user] 56) ∧ OwnB base wr u0 cur ∧ PartsT (w.heap.size + 1) wr (.slice pp N cp) (shapeP O) ∧ OntoT base 5 w wr ∧ cur = l ++ (y :: A :: putsE ((shapeP O).take j) E0) ∧ cur.length ≤ l.length + 2 + 4 * j ∧ fitsE ((shapeP O).take j) E0 ∧ E1 = zE ((shapeP O).take j) Z0) (fun _ i _ => N - (intOf i).toNat)
  case atStart => exact ⟨0, _, Z0, rfl, Nat.zero_le _, HQ11.out, HO11.out, HPA.out, HT11.out, rfl, by simp, (fun p hp => by cases hp), rfl⟩
  case round =>
    obtain ⟨j, cur, E1, rfl, hj, hq, hown, hpt, hto, hcur, hcl, hfit, hz⟩ := hrel
    have HQ := Go.Lib.hid hq
    have HOW := Go.Lib.hid hown
    have HPT := Go.Lib.hid hpt
    have HTO := Go.Lib.hid hto
    have HCU := Go.Lib.hid hcur
    have HCL := Go.Lib.hid hcl
    have HFT := Go.Lib.hid hfit
    have HZ := Go.Lib.hid hz
    have hszr : base ≤ wr.heap.size := Nat.le_trans hb hto.below.size
    clear hq hown hpt hto hcur hcl hfit hz HQ11 HO11 HPA HT11
    by_cases hlt : j < N
    · obtain ⟨i, hi3, hi7, hat⟩ := HSD.out j hlt
      have HAT0 := Go.Lib.hid hat
      have hkk := widE_in i
      generalize hk : widE i = k at *
      have HK := Go.Lib.hid hk
      have HKK := Go.Lib.hid hkk
      clear hk hkk
      obtain ⟨pp', cp', hq1, hcell⟩ := HPT.out.1
      injection hq1 with hq1 hq2 hq3
      subst hq1
      obtain ⟨gp, hgp, rfl, p0, p1⟩ := hcell j i k hat
      clear hcell hq2 hq3 hat
      have hen := fun args w => parts_enter i hi3 hi7 args w
      have HAT : Hid (∀ W, Calls Tryz.prog (atN i) #[.pointer (some ⟨w.heap.size, 0, none⟩)] W fun e w' => e = .returned (.pointer (some ⟨w.heap.size, i, none⟩)) ∧ w' = W) := Go.Lib.hid (fun W => parts_at i w.heap.size hi3 hi7 W)
      have b1 : (0 : Int) ≤ (j : Int) := by omega
      have b2 : (j : Int) < (N : Int) := by omega
      have hgx : E1.get i = E0.get i := by rw [HZ.out, ← HGT.out i hi3]; exact zE_get O j Z0 i k HAT0.out
      have hal : Below wr.heap.size wr (wr.alloc (.cells #[.func (.func (atN i)) #[] #[], .int .i64 (k : Nat)] 105)) := (Below.refl _ _).alloc (Nat.le_refl _) _
      have hrow := row_below hal HQ.out
      have HVR := Go.Lib.hid (heap_alloc_new wr (.cells #[.func (.func (atN i)) #[] #[], .int .i64 (k : Nat)] 105))
      have HO5 := Go.Lib.hid (own_below HOW.out hal)
      have HPT5 := Go.Lib.hid (HPT.out.go hal)
      have HTO5 := Go.Lib.hid (HTO.out.then hszr hal)
      have hsz5 : base ≤ (wr.alloc (.cells #[.func (.func (atN i)) #[] #[], .int .i64 (k : Nat)] 105)).heap.size := Nat.le_trans hszr hal.size
      have hgv : w.heap.size < wr.heap.size := heap_lt0 HQ.out
      clear HOW HPT HTO HQ hal
      go_wp2_with fail
      have p2 : (wr.alloc (.cells #[.func (.func (atN i)) #[] #[], .int .i64 (k : Nat)] 105)).cell? ⟨wr.heap.size, 0, none⟩ = some (.func (.func (atN i)) #[] #[]) := cell_of_row _ _ _ _ _ _ HVR.out
      have p3 : (wr.alloc (.cells #[.func (.func (atN i)) #[] #[], .int .i64 (k : Nat)] 105)).cell? ⟨wr.heap.size, 1, none⟩ = some (.int .i64 (k : Nat)) := cell_of_row _ _ _ _ _ _ HVR.out
      generalize (wr.alloc (.cells #[.func (.func (atN i)) #[] #[], .int .i64 (k : Nat)] 105)) = W5 at *
      generalize wr.heap.size = gv at *
      clear p0 p1
      by_cases hf : 0 ≤ E0.get i ∧ E0.get i < ((256 ^ k : Nat) : Int)
      · obtain ⟨X, hX⟩ : ∃ X : Nat, E0.get i = (X : Int) := ⟨(E0.get i).toNat, by omega⟩
        have ci : W5.cell? ⟨w.heap.size, i, none⟩ = some (.int .i64 (X : Nat)) := by rw [cell_of_row _ _ _ _ _ _ hrow, row_at E1 i hi3 hi7, hgx, hX]
        have HPU := Go.Lib.hid (script_put_any k HKK.out X (by have := hf.2; rw [hX] at this; exact Int.ofNat_lt.1 this) cur (by have := HCL.out; omega) base u0 W5.drew (own_below HO5.out (Below.refl _ _).drew) hsz5)
        have HXB : Hid (bytesL (E0.get i).toNat k = bytesL X k) := Go.Lib.hid (by rw [hX]; rfl)
        have HFS := Go.Lib.hid (fits_snoc HAT0.out HFT.out hf)
        have HROW5 := Go.Lib.hid hrow
        clear hf hX hgx hrow
        go_region_with (first
          | ((with_reducible refine (HAT.out _).mono ?_); rintro e w' ⟨rfl, rfl⟩)
          | ((with_reducible refine HPU.out.mono ?_); rintro e w6 ⟨v6, rfl, ho6, ht6⟩))
        all_goals
          have hrow6 := ht6.keep _ _ _ _ (by decide) HROW5.out
          have hvr6 := ht6.keep _ _ _ _ (by decide) HVR.out
          replace p2 : w6.cell? ⟨gv, 0, none⟩ = some (.func (.func (atN i)) #[] #[]) := cell_of_row _ _ _ _ _ _ hvr6
          clear p3 ci
          have ci : w6.cell? ⟨w.heap.size, i, none⟩ = some (.int .i64 (E1.get i)) := by rw [cell_of_row _ _ _ _ _ _ hrow6, row_at E1 i hi3 hi7]
          have zi : w6.frozen? ⟨w.heap.size, i, none⟩ = false := frozen_of_row _ _ _ _ _ hrow6
          have HROW6 : Hid ((w6.setCell ⟨w.heap.size, i, none⟩ (.int .i64 0)).heap[w.heap.size]? = some (.cells #[.int .i64 (E1.set i 0).kind, .int .i64 (E1.set i 0).worker, .int .i64 (E1.set i 0).op, .int .i64 (E1.set i 0).node, .int .i64 (E1.set i 0).gen, .int .i64 (E1.set i 0).time, .int .i64 (E1.set i 0).arg, .int .i64 (E1.set i 0).user] 56)) := Go.Lib.hid (by rw [row_set0 hrow6, row_set E1 i 0 hi3 hi7])
          have HOW6 := Go.Lib.hid (own_set (i := i) (u := .int .i64 0) ho6 hrow6 (by decide))
          have HPT6 : Hid (PartsT (w.heap.size + 1) (w6.setCell ⟨w.heap.size, i, none⟩ (.int .i64 0)) (.slice (some ⟨gp, 0, none⟩) N cp) (shapeP O)) := Go.Lib.hid (((HPT5.out.go (Below.refl _ _).drew).onto ht6).set (Nat.lt_succ_self _))
          have HTO6 := Go.Lib.hid (((HTO5.out.then hsz5 (Below.refl _ _).drew).trans ht6).set (g9 := w.heap.size) (i := i) (u := .int .i64 0) (Nat.le_refl _) hb)
          clear hrow6 hvr6 ho6 ht6
          go_wp2_with (first
            | ((with_reducible refine (HAT.out _).mono ?_); rintro e wz ⟨rfl, hwz⟩; obtain rfl : w6 = wz := hwz.symm)
            | fail)
          go_roundw
          case rel => exact ⟨j + 1, cur ++ bytesL X k, E1.set i 0, by go_num, by omega, HROW6.out, HOW6.out, HPT6.out, HTO6.out, by rw [HCU.out, puts_snoc E0 HAT0.out, HXB.out, List.append_assoc]; rfl, by rw [List.length_append, bytesL_len]; have := HCL.out; have := HKK.out; omega, HFS.out, by rw [zE_snoc Z0 HAT0.out, HZ.out]⟩
          case measure => simp [intOf]; omega
      · have ci : W5.cell? ⟨w.heap.size, i, none⟩ = some (.int .i64 (E0.get i)) := by rw [cell_of_row _ _ _ _ _ _ hrow, row_at E1 i hi3 hi7, hgx]
        have hri : -9223372036854775808 ≤ E0.get i ∧ E0.get i < 9223372036854775808 := by rw [HE0.out]; exact HRG.out i hi3 hi7
        have HPU := Go.Lib.hid (script_put_no k HKK.out (E0.get i) hri hf u0 W5.drew)
        have HFI : Hid (layP E0 = none) := Go.Lib.hid (by
          rw [HLY.out, if_neg (fun q => hf ?_)]
          have := q.1 (i, widE i) (List.mem_of_getElem? (by rw [HAT0.out, HK.out]))
          rw [HK.out] at this
          exact this)
        clear hf hgx hrow hri
        generalize E0.get i = X at *
        go_region_with (first
          | ((with_reducible refine (HAT.out _).mono ?_); rintro e w' ⟨rfl, rfl⟩)
          | ((with_reducible refine HPU.out.mono ?_); rintro e w' ⟨rfl, rfl⟩))
        all_goals
          go_wp2
          go_ret2
          exact HLP.out _ _ (LayPost.no (HTO5.out.then hsz5 (Below.refl _ _).drew) HFI.out)
    · have hjn : j = N := by omega
      subst hjn
      have HE1 : Hid (E1 = zE (shapeP O) Z0) := Go.Lib.hid (by rw [HZ.out, HTK.out])
      have HFA : Hid (fitsE (shapeP O) E0) := Go.Lib.hid (by have := HFT.out; rwa [HTK.out] at this)
      have HCA : Hid (cur = l ++ (y :: A :: putsE (shapeP O) E0)) := Go.Lib.hid (by rw [HCU.out, HTK.out])
      obtain ⟨D, hD⟩ := bool_of (E1 = ⟨1, 0, 0, 0, 0, 0, 0, 0⟩)
      have HD := Go.Lib.hid hD
      have heq := fun W => eql_ent E1.kind E1.worker E1.op E1.node E1.gen E1.time E1.arg E1.user 1 0 0 0 0 0 0 0 D hD W
      have b1 : ((j : Int) < (j : Int)) = False := by simp
      clear hD HZ HFT HCU
      have c0 : wr.cell? ⟨w.heap.size, 0, none⟩ = some (.int .i64 E1.kind) := cell_of_row _ _ _ _ _ _ HQ.out
      have c1 : wr.cell? ⟨w.heap.size, 1, none⟩ = some (.int .i64 E1.worker) := cell_of_row _ _ _ _ _ _ HQ.out
      have c2 : wr.cell? ⟨w.heap.size, 2, none⟩ = some (.int .i64 E1.op) := cell_of_row _ _ _ _ _ _ HQ.out
      have c3 : wr.cell? ⟨w.heap.size, 3, none⟩ = some (.int .i64 E1.node) := cell_of_row _ _ _ _ _ _ HQ.out
      have c4 : wr.cell? ⟨w.heap.size, 4, none⟩ = some (.int .i64 E1.gen) := cell_of_row _ _ _ _ _ _ HQ.out
      have c5 : wr.cell? ⟨w.heap.size, 5, none⟩ = some (.int .i64 E1.time) := cell_of_row _ _ _ _ _ _ HQ.out
      have c6 : wr.cell? ⟨w.heap.size, 6, none⟩ = some (.int .i64 E1.arg) := cell_of_row _ _ _ _ _ _ HQ.out
      have c7 : wr.cell? ⟨w.heap.size, 7, none⟩ = some (.int .i64 E1.user) := cell_of_row _ _ _ _ _ _ HQ.out
      go_wp2
      go_quiet (fail)
      go_wp2
      go_ret2
      refine HLP.out _ _ ⟨_, D, rfl, HTO.out.then hszr (below_drewN nq), ?_, fun bs hbs => ?_⟩
      · rw [HD.out, HLY.out, HE1.out]
        by_cases h : zE (shapeP O) Z0 = ⟨1, 0, 0, 0, 0, 0, 0, 0⟩
        · rw [if_pos ⟨HFA.out, h⟩]; exact ⟨fun _ => rfl, fun _ => h⟩
        · rw [if_neg (fun q => h q.2)]; exact ⟨fun q => absurd q h, fun q => by cases q⟩
      · rw [HLY.out] at hbs
        by_cases h : fitsE (shapeP O) E0 ∧ zE (shapeP O) Z0 = ⟨1, 0, 0, 0, 0, 0, 0, 0⟩
        · rw [if_pos h] at hbs
          cases hbs
          rw [← HCA.out]
          exact own_below HOW.out (below_drewN nq)
        · rw [if_neg h] at hbs; cases hbs

end Go.Proofs.YtdemhabgaimnmaaGreatDoor
/- script.lay of any entry; script.Encode. -/
namespace Go.Proofs.YtdemhabgaimnmaaGreatDoor
open Go.RowKit
set_option maxRecDepth 100000
set_option linter.unusedVariables false

theorem script_lay (e0 : Ent) (hr : EntR e0) (l : List Nat) (hl : l.length ≤ 800000) (base : Nat) (v : Value) (w : World) (ho : OwnB base w v l) (hb : base ≤ w.heap.size) :
    Calls Tryz.prog 41 #[v, .agg #[.int .i64 e0.kind, .int .i64 e0.worker, .int .i64 e0.op, .int .i64 e0.node, .int .i64 e0.gen, .int .i64 e0.time, .int .i64 e0.arg, .int .i64 e0.user]] w (LayPost base l e0 w) := by
  obtain ⟨k, a, o, n, g, t, r, u⟩ := e0
  by_cases h3 : k = 3
  · subst h3; exact script_lay3 a o n g t r u l hl base v w ho hb
  · by_cases h2 : k = 2
    · subst h2
      by_cases ha : 0 ≤ a ∧ a < 64
      · obtain ⟨A, rfl⟩ : ∃ A : Nat, a = (A : Int) := ⟨a.toNat, by omega⟩
        exact script_lay2 A (by omega) o n g t r u l hl base v w ho hb
      · exact script_lay2no a o n g t r u ha l hl base v w ho hb
    · by_cases h1 : k = 1
      · subst h1
        by_cases ha : (0 ≤ o ∧ o < 64) ∧ 0 ≤ a ∧ a < 256
        · obtain ⟨A, rfl⟩ : ∃ A : Nat, a = (A : Int) := ⟨a.toNat, by omega⟩
          obtain ⟨O, rfl⟩ : ∃ O : Nat, o = (O : Int) := ⟨o.toNat, by omega⟩
          exact script_lay1 A (by omega) O (by omega) n g t r u hr l hl base v w ho hb
        · exact script_lay1no a o n g t r u ha l hl base v w ho hb
      · exact script_lay0 k a o n g t r u h3 h2 h1 l hl base v w ho hb
theorem layP_len {e : Ent} {bs : List Nat} (h : layP e = some bs) : bs.length ≤ 14 := by
  unfold layP at h
  by_cases h3 : e.kind = 3
  · rw [if_pos h3] at h
    split at h
    · cases h; decide
    · cases h
  · rw [if_neg h3] at h
    by_cases h2 : e.kind = 2
    · rw [if_pos h2] at h
      split at h
      · cases h; exact (by decide : (1 : Nat) ≤ 14)
      · cases h
    · rw [if_neg h2] at h
      by_cases h1 : e.kind = 1
      · rw [if_pos h1] at h
        split at h
        · cases h
          have : (putsE (shapeP e.op.toNat) e).length ≤ 12 := by
            unfold putsE shapeP
            repeat' split
            all_goals simp [List.flatMap_cons, bytesL_len]
          simp only [List.length_cons]
          omega
        · cases h
      · rw [if_neg h1] at h; cases h
theorem encP_len : ∀ {l : List Ent} {bs : List Nat}, encP l = some bs → bs.length ≤ 14 * l.length
  | [], bs, h => by cases h; exact Nat.le_refl _
  | e :: es, bs, h => by
    rw [encP] at h
    cases hb : layP e with
    | none => rw [hb] at h; cases h
    | some b =>
      rw [hb] at h
      cases hs : encP es with
      | none => rw [hs] at h; cases h
      | some bs' =>
        rw [hs] at h
        cases h
        have h1 := layP_len hb
        have h2 := encP_len hs
        rw [List.length_append, List.length_cons]
        omega
/-- What an Encode answers. -/
def encK (x : Nat → Int) (es : List Ent) : Int := if okI x then (if encP es = none then 1 else 0) else 7
def EncPost (x : Nat → Int) (es : List Ent) (w : World) (e : Ending) (w' : World) : Prop :=
  ∃ v, e = .returned (.tuple #[v, .int .i64 (encK x es)]) ∧ Below w.heap.size w w' ∧ (encK x es ≠ 0 → v = .slice none 0 0) ∧ ∀ bs, okI x → encP es = some bs → OwnB w.heap.size w' v (headJ x 13 ++ bs)
theorem EncPost.bad {x : Nat → Int} {es : List Ent} {w w' : World} (hx : ¬ okI x) (hb : Below w.heap.size w w') : EncPost x es w (.returned (.tuple #[.slice none 0 0, .int .i64 7])) w' := by
  have hk : encK x es = 7 := by unfold encK; rw [if_neg hx]
  exact ⟨_, by rw [hk], hb, fun _ => rfl, fun bs h => absurd h hx⟩
theorem EncPost.arg {x : Nat → Int} {es : List Ent} {w w' : World} (hx : okI x) (he : encP es = none) (hb : Below w.heap.size w w') : EncPost x es w (.returned (.tuple #[.slice none 0 0, .int .i64 1])) w' := by
  have hk : encK x es = 1 := by unfold encK; rw [if_pos hx, if_pos he]
  exact ⟨_, by rw [hk], hb, fun _ => rfl, fun bs _ h => by rw [he] at h; cases h⟩
theorem EncPost.ok {x : Nat → Int} {es : List Ent} {w w' : World} {v : Value} {bs : List Nat} (hx : okI x) (he : encP es = some bs) (hb : Below w.heap.size w w') (ho : OwnB w.heap.size w' v (headJ x 13 ++ bs)) : EncPost x es w (.returned (.tuple #[v, .int .i64 0])) w' := by
  have hk : encK x es = 0 := by unfold encK; rw [if_pos hx, if_neg (by rw [he]; simp)]
  exact ⟨_, by rw [hk], hb, fun q => absurd hk q, fun bs' _ h => by rw [he] at h; cases h; exact ho⟩
theorem encP_snoc' {es : List Ent} {j : Nat} {e : Ent} {bs : List Nat} (hj : es[j]? = some e) (h : encP (es.take j) = some bs) : encP (es.take (j + 1)) = (layP e).map fun c => bs ++ c := by
  rw [List.take_add_one, hj]
  show encP (es.take j ++ [e]) = _
  rw [encP_snoc, h]
  rfl
set_option maxHeartbeats 2000000 in
theorem script_Encode_bad (x : Nat → Int) (hx : ¬ okI x) (es : List Ent) (v : Value) (w : World) : Calls Tryz.prog 18 #[.agg #[.int .i64 (x 0), .int .i64 (x 1), .int .i64 (x 2), .int .i64 (x 3), .int .i64 (x 4), .int .i64 (x 5), .int .i64 (x 6), .int .i64 (x 7), .int .i64 (x 8), .int .i64 (x 9), .int .i64 (x 10), .int .i64 (x 11), .int .i64 (x 12)], v] w (EncPost x es w) := by
  have HCK : Hid (∀ W, Calls Tryz.prog 24 #[.agg #[.int .i64 (x 0), .int .i64 (x 1), .int .i64 (x 2), .int .i64 (x 3), .int .i64 (x 4), .int .i64 (x 5), .int .i64 (x 6), .int .i64 (x 7), .int .i64 (x 8), .int .i64 (x 9), .int .i64 (x 10), .int .i64 (x 11), .int .i64 (x 12)]] W fun e w' => ∃ a : Int, e = .returned (.tuple #[.int .i64 a, .int .i64 7]) ∧ Below W.heap.size W w') := Go.Lib.hid (fun W => by
    have := plan_checkX x W
    rwa [if_neg hx] at this)
  have HB0 := Go.Lib.hid ((Below.refl w.heap.size w).alloc (Nat.le_refl _) (.cells #[.int .i64 (x 0), .int .i64 (x 1), .int .i64 (x 2), .int .i64 (x 3), .int .i64 (x 4), .int .i64 (x 5), .int .i64 (x 6), .int .i64 (x 7), .int .i64 (x 8), .int .i64 (x 9), .int .i64 (x 10), .int .i64 (x 11), .int .i64 (x 12)] 29))
  have HX := Go.Lib.hid hx
  clear hx
  go_enter Tryz.func18, Tryz.ntmps18
  go_wp2_with fail
  generalize (w.alloc (.cells #[.int .i64 (x 0), .int .i64 (x 1), .int .i64 (x 2), .int .i64 (x 3), .int .i64 (x 4), .int .i64 (x 5), .int .i64 (x 6), .int .i64 (x 7), .int .i64 (x 8), .int .i64 (x 9), .int .i64 (x 10), .int .i64 (x 11), .int .i64 (x 12)] 29)) = W0 at *
  refine (HCK.out _).mono ?_
  rintro e w2 ⟨a, rfl, hb2⟩
  have HB2 := Go.Lib.hid (HB0.out.trans (hb2.mono HB0.out.size))
  clear hb2
  go_wp2
  go_ret2
  exact EncPost.bad HX.out HB2.out
set_option maxHeartbeats 8000000 in
theorem script_Encode_ok (x : Nat → Int) (hx : okI x) (es : List Ent) (hes : ∀ e ∈ es, EntR e) (hn : es.length ≤ 100) (v : Value) (w : World) (h : KEs w v es) : Calls Tryz.prog 18 #[.agg #[.int .i64 (x 0), .int .i64 (x 1), .int .i64 (x 2), .int .i64 (x 3), .int .i64 (x 4), .int .i64 (x 5), .int .i64 (x 6), .int .i64 (x 7), .int .i64 (x 8), .int .i64 (x 9), .int .i64 (x 10), .int .i64 (x 11), .int .i64 (x 12)], v] w (EncPost x es w) := by
  have HCK : Hid (∀ W, Calls Tryz.prog 24 #[.agg #[.int .i64 (x 0), .int .i64 (x 1), .int .i64 (x 2), .int .i64 (x 3), .int .i64 (x 4), .int .i64 (x 5), .int .i64 (x 6), .int .i64 (x 7), .int .i64 (x 8), .int .i64 (x 9), .int .i64 (x 10), .int .i64 (x 11), .int .i64 (x 12)]] W fun e w' => ∃ a : Int, e = .returned (.tuple #[.int .i64 a, .int .i64 0]) ∧ Below W.heap.size W w') := Go.Lib.hid (fun W => by
    have := plan_checkX x W
    rwa [if_pos hx] at this)
  have HLI := Go.Lib.hid (fun W => plan_listX x W)
  have hidx := fun j h W => index_x x W j h
  have HIX := Go.Lib.hid hidx
  have HB0 := Go.Lib.hid ((Below.refl w.heap.size w).alloc (Nat.le_refl _) (.cells #[.int .i64 (x 0), .int .i64 (x 1), .int .i64 (x 2), .int .i64 (x 3), .int .i64 (x 4), .int .i64 (x 5), .int .i64 (x 6), .int .i64 (x 7), .int .i64 (x 8), .int .i64 (x 9), .int .i64 (x 10), .int .i64 (x 11), .int .i64 (x 12)] 29))
  have HQ0 := Go.Lib.hid (heap_alloc_new w (.cells #[.int .i64 (x 0), .int .i64 (x 1), .int .i64 (x 2), .int .i64 (x 3), .int .i64 (x 4), .int .i64 (x 5), .int .i64 (x 6), .int .i64 (x 7), .int .i64 (x 8), .int .i64 (x 9), .int .i64 (x 10), .int .i64 (x 11), .int .i64 (x 12)] 29))
  have HX := Go.Lib.hid hx
  have HXB : Hid (∀ i, i < 13 → ∃ X : Nat, x i = (X : Int) ∧ X < 4294967296 ∧ (x i).toNat = X) := Go.Lib.hid (fun i hi => by
    have := okI_lt hx i hi
    exact ⟨(x i).toNat, by omega, by omega, rfl⟩)
  have HES := Go.Lib.hid hes
  obtain ⟨p0, q0, rfl⟩ := id (KE.form h)
  have HK0 := Go.Lib.hid h
  have hnl : ((es.length : Int) > 20000) = False := by simp; omega
  have hnl2 : ((20000 : Int) < (es.length : Int)) = False := by simp; omega
  have HN := Go.Lib.hid hn
  have HLJ := Go.Lib.hid (headJ_len x)
  clear hx hidx hes h
  generalize hlen : es.length = N at *
  have HLEN := Go.Lib.hid hlen
  clear hlen
  go_enter Tryz.func18, Tryz.ntmps18
  go_wp2_with fail
  generalize (w.alloc (.cells #[.int .i64 (x 0), .int .i64 (x 1), .int .i64 (x 2), .int .i64 (x 3), .int .i64 (x 4), .int .i64 (x 5), .int .i64 (x 6), .int .i64 (x 7), .int .i64 (x 8), .int .i64 (x 9), .int .i64 (x 10), .int .i64 (x 11), .int .i64 (x 12)] 29)) = W0 at *
  refine (HCK.out _).mono ?_
  rintro e w2 ⟨a, rfl, hb2⟩
  have hq2 := row_below hb2 HQ0.out
  have HB2 := Go.Lib.hid (HB0.out.trans (hb2.mono HB0.out.size))
  have cx0 : w2.cell? ⟨w.heap.size, 0, none⟩ = some (.int .i64 (x 0)) := cell_of_row _ _ _ _ _ _ hq2
  have cx1 : w2.cell? ⟨w.heap.size, 1, none⟩ = some (.int .i64 (x 1)) := cell_of_row _ _ _ _ _ _ hq2
  have cx2 : w2.cell? ⟨w.heap.size, 2, none⟩ = some (.int .i64 (x 2)) := cell_of_row _ _ _ _ _ _ hq2
  have cx3 : w2.cell? ⟨w.heap.size, 3, none⟩ = some (.int .i64 (x 3)) := cell_of_row _ _ _ _ _ _ hq2
  have cx4 : w2.cell? ⟨w.heap.size, 4, none⟩ = some (.int .i64 (x 4)) := cell_of_row _ _ _ _ _ _ hq2
  have cx5 : w2.cell? ⟨w.heap.size, 5, none⟩ = some (.int .i64 (x 5)) := cell_of_row _ _ _ _ _ _ hq2
  have cx6 : w2.cell? ⟨w.heap.size, 6, none⟩ = some (.int .i64 (x 6)) := cell_of_row _ _ _ _ _ _ hq2
  have cx7 : w2.cell? ⟨w.heap.size, 7, none⟩ = some (.int .i64 (x 7)) := cell_of_row _ _ _ _ _ _ hq2
  have cx8 : w2.cell? ⟨w.heap.size, 8, none⟩ = some (.int .i64 (x 8)) := cell_of_row _ _ _ _ _ _ hq2
  have cx9 : w2.cell? ⟨w.heap.size, 9, none⟩ = some (.int .i64 (x 9)) := cell_of_row _ _ _ _ _ _ hq2
  have cx10 : w2.cell? ⟨w.heap.size, 10, none⟩ = some (.int .i64 (x 10)) := cell_of_row _ _ _ _ _ _ hq2
  have cx11 : w2.cell? ⟨w.heap.size, 11, none⟩ = some (.int .i64 (x 11)) := cell_of_row _ _ _ _ _ _ hq2
  have cx12 : w2.cell? ⟨w.heap.size, 12, none⟩ = some (.int .i64 (x 12)) := cell_of_row _ _ _ _ _ _ hq2
  clear hb2 HQ0 HB0 hq2
  go_wp2_with fail
  refine (HLI.out _).mono ?_
  rintro e w3 ⟨rfl, hb3⟩
  have HB3 := Go.Lib.hid (HB2.out.trans (hb3.mono HB2.out.size))
  clear hb3 HB2 cx0 cx1 cx2 cx3 cx4 cx5 cx6 cx7 cx8 cx9 cx10 cx11 cx12
  go_wp2_with fail
  go_loopw [8, 28] (fun u8 u28 wr => ∃ j : Nat, u28 = .int .i64 (j : Nat) ∧ j ≤ 13 ∧ OwnB w.heap.size wr u8 (headJ x j) ∧ Below w.heap.size w wr) (fun _ i _ => 13 - (intOf i).toNat)
  case atStart => exact ⟨0, rfl, by decide, World.ownsRow_nil _ _ _ _, HB3.out⟩
  case round =>
    obtain ⟨j, rfl, hj, hown, hbw⟩ := hrel
    obtain ⟨a8, q8, rfl⟩ := own_form hown
    have HOW := Go.Lib.hid hown
    have HBW := Go.Lib.hid hbw
    clear hown hbw HB3
    by_cases hlt : j < 13
    · have b1 : (0 : Int) ≤ (j : Int) := by omega
      have b2 : (j : Int) < 13 := by omega
      have hix := fun W => HIX.out j hlt W
      obtain ⟨X, hX, hX2, hX3⟩ := HXB.out j hlt
      have HPU := Go.Lib.hid (script_put4 X hX2 (headJ x j) (by rw [HLJ.out]; omega) w.heap.size (.slice a8 (headJ x j).length q8) wr HOW.out HBW.out.size)
      have HNX : Hid (headJ x j ++ bytesL X 4 = headJ x (j + 1)) := Go.Lib.hid (by rw [headJ, hX3])
      rw [hX] at hix
      clear hX hX2 hX3
      go_wp2_with fail
      refine HPU.out.mono ?_
      rintro e w5 ⟨v5, rfl, ho5, ht5⟩
      rw [HNX.out] at ho5
      have HO5 := Go.Lib.hid ho5
      have HB5 := Go.Lib.hid (HBW.out.trans ht5.below)
      clear ho5 ht5
      go_wp2
      go_roundw
      case rel => exact ⟨j + 1, by go_num, by omega, HO5.out, HB5.out⟩
      case measure => simp [intOf]; omega
    · have hj13 : j = 13 := by omega
      subst hj13
      rw [show (((13 : Nat)) : Int) = 13 from rfl]
      go_wp2
      generalize wr = W6 at *
      go_loopw [8, 40] (fun u8 u40 wr => ∃ (j : Nat) (bs cur : List Nat), u40 = .int .i64 (j : Nat) ∧ j ≤ N ∧ encP (es.take j) = some bs ∧ OwnB w.heap.size wr u8 cur ∧ Below w.heap.size w wr ∧ cur = headJ x 13 ++ bs) (fun _ i _ => N - (intOf i).toNat)
      case atStart => exact ⟨0, [], headJ x 13, rfl, Nat.zero_le _, rfl, HOW.out, HBW.out, (List.append_nil _).symm⟩
      case round =>
        obtain ⟨j, bs, cur, rfl, hj, hbs, hown, hbw, hcu⟩ := hrel
        have HCU := Go.Lib.hid hcu
        clear hcu
        obtain ⟨a9, q9, rfl⟩ := own_form hown
        have HOR := Go.Lib.hid hown
        have HBR := Go.Lib.hid hbw
        have HBS := Go.Lib.hid hbs
        clear hown hbw hbs HOW HBW
        by_cases hlt : j < N
        · obtain ⟨E1, hE1⟩ : ∃ E1, es[j]? = some E1 := ⟨_, List.getElem?_eq_getElem (by rw [HLEN.out]; exact hlt)⟩
          have hkr : KE (fun b => b < w.heap.size) wr (.slice p0 N q0) es := by have := KE.keep HK0.out (fun b hb => HBR.out.block b hb); first | exact this | rwa [HLEN.out] at this
          obtain ⟨g, off, c', ee, hkg, hcell⟩ := KE.open hkr (by rw [HLEN.out]; omega)
          injection ee with e1 e2 e3
          clear e2
          subst e1
          subst e3
          have HC : Hid (∀ (i : Nat) (u : Value), E1.cells[i]? = some u → wr.cell? ⟨g, off + j * 8 + i, none⟩ = some u) := Go.Lib.hid (fun i u hi => hcell j E1 hE1 i u hi)
          have cc0 : wr.cell? ⟨g, off + j * 8, none⟩ = some (.int .i64 E1.kind) := HC.out 0 _ rfl
          have cc1 : wr.cell? ⟨g, off + j * 8 + 1, none⟩ = some (.int .i64 E1.worker) := HC.out 1 _ rfl
          have cc2 : wr.cell? ⟨g, off + j * 8 + 2, none⟩ = some (.int .i64 E1.op) := HC.out 2 _ rfl
          have cc3 : wr.cell? ⟨g, off + j * 8 + 3, none⟩ = some (.int .i64 E1.node) := HC.out 3 _ rfl
          have cc4 : wr.cell? ⟨g, off + j * 8 + 4, none⟩ = some (.int .i64 E1.gen) := HC.out 4 _ rfl
          have cc5 : wr.cell? ⟨g, off + j * 8 + 5, none⟩ = some (.int .i64 E1.time) := HC.out 5 _ rfl
          have cc6 : wr.cell? ⟨g, off + j * 8 + 6, none⟩ = some (.int .i64 E1.arg) := HC.out 6 _ rfl
          have cc7 : wr.cell? ⟨g, off + j * 8 + 7, none⟩ = some (.int .i64 E1.user) := HC.out 7 _ rfl
          have b1 : (0 : Int) ≤ (j : Int) := by omega
          have b2 : (j : Int) < (N : Int) := by omega
          have HE1 := Go.Lib.hid hE1
          have HLL : Hid (cur.length ≤ 800000) := Go.Lib.hid (by
            rw [HCU.out]
            have h1 := encP_len HBS.out
            have h2 := HLJ.out 13
            have h3 : (es.take j).length ≤ 100 := by rw [List.length_take]; have := HN.out; omega
            rw [List.length_append, h2]; omega)
          have hal : Below wr.heap.size wr (wr.alloc (.cells #[.int .i64 E1.kind, .int .i64 E1.worker, .int .i64 E1.op, .int .i64 E1.node, .int .i64 E1.gen, .int .i64 E1.time, .int .i64 E1.arg, .int .i64 E1.user] 56)) := (Below.refl _ _).alloc (Nat.le_refl _) _
          have HLY := Go.Lib.hid (script_lay E1 (HES.out E1 (List.mem_of_getElem? hE1)) cur HLL.out w.heap.size (.slice a9 cur.length q9) (wr.alloc (.cells #[.int .i64 E1.kind, .int .i64 E1.worker, .int .i64 E1.op, .int .i64 E1.node, .int .i64 E1.gen, .int .i64 E1.time, .int .i64 E1.arg, .int .i64 E1.user] 56)) (own_below HOR.out hal) (Nat.le_trans HBR.out.size hal.size))
          have HB6 := Go.Lib.hid (HBR.out.trans (hal.mono HBR.out.size))
          clear hkr hcell hE1 hal HC
          go_wp2_with fail
          refine HLY.out.mono ?_
          rintro e w7 ⟨v7, ok, rfl, ht7, hok7, hbs7⟩
          have HB7 := Go.Lib.hid (HB6.out.trans ht7.below)
          clear ht7 cc0 cc1 cc2 cc3 cc4 cc5 cc6 cc7
          cases hl : layP E1 with
          | none =>
            have hok : ok = false := by
              cases ok with
              | false => rfl
              | true => have := hok7.1 rfl; rw [hl] at this; cases this
            subst hok
            have HEN : Hid (encP es = none) := Go.Lib.hid (encP_cut (k := j + 1) (by rw [encP_snoc' HE1.out HBS.out, hl]; rfl))
            clear hok7 hbs7 hl
            go_wp2
            go_ret2
            exact EncPost.arg HX.out HEN.out HB7.out
          | some c =>
            have hok : ok = true := hok7.2 (by rw [hl]; rfl)
            subst hok
            have HO7 := Go.Lib.hid (hbs7 c hl)
            have HEN : Hid (encP (es.take (j + 1)) = some (bs ++ c)) := Go.Lib.hid (by rw [encP_snoc' HE1.out HBS.out, hl]; rfl)
            clear hok7 hbs7 hl
            go_wp2
            go_roundw
            case rel => exact ⟨j + 1, bs ++ c, cur ++ c, by go_num, by omega, HEN.out, HO7.out, HB7.out, by rw [HCU.out, List.append_assoc]⟩
            case measure => simp [intOf]; omega
        · have hjN : j = N := by omega
          subst hjN
          have b1 : ((j : Int) < (j : Int)) = False := by simp
          have HEN : Hid (encP es = some bs) := Go.Lib.hid (by have := HBS.out; rwa [List.take_of_length_le (by rw [HLEN.out]; exact Nat.le_refl _)] at this)
          go_wp2
          go_ret2
          exact EncPost.ok HX.out HEN.out HBR.out (by rw [← HCU.out]; exact HOR.out)
end Go.Proofs.YtdemhabgaimnmaaGreatDoor
/- Regions that draw their order, with guards that are off (no program in it). -/
namespace Go.Proofs.YtdemhabgaimnmaaGreatDoor
open Go
set_option linter.unusedVariables false

section
variable {P : Program} {ops : Array Oper}
def backG (ops : Array Oper) : Bool := (List.range ops.size).all fun i => ((ops[i]?).map fun o => o.after.all fun e => decide (e.on < i) || !Region.binds .any e).getD true
theorem ready_nilG (hb : backG ops = true) {listed : Array Bool} (h : Region.ready .any ops listed = []) : ∀ (n i : Nat), i < n → i < ops.size → listed.getD i true = true := by
  intro n
  induction n with
  | zero => intro i hi; omega
  | succ n ih =>
    intro i hi hlt
    by_cases hin : i < n
    · exact ih i hin hlt
    · obtain rfl : i = n := by omega
      cases hl : listed.getD i true with
      | true => rfl
      | false =>
        have ho : ops[i]? = some ops[i] := Array.getElem?_eq_getElem hlt
        have hmem : i ∈ Region.ready .any ops listed := by
          refine mem_ready.2 ⟨hl, ops[i], ho, fun e he hbd => ?_⟩
          have h1 := List.all_eq_true.1 hb i (List.mem_range.2 hlt)
          rw [ho] at h1
          have h2 : e.on < i := by
            have := Array.all_eq_true_iff_forall_mem.1 h1 e he
            rw [hbd, Bool.not_true, Bool.or_false] at this
            exact of_decide_eq_true this
          have h3 := ih e.on h2 (by omega)
          cases h4 : listed.getD e.on false with
          | true => rfl
          | false =>
            exfalso
            rcases Nat.lt_or_ge e.on listed.size with h5 | h5
            · simp [h5] at h3 h4; rw [h4] at h3; cases h3
            · have h6 : listed.size ≤ i := by omega
              simp [Array.getElem?_eq_none h6] at hl
        rw [h] at hmem
        cases hmem
/-- The law: what holds at first, is kept by each operation whose turn may come, and hands over at the end. -/
theorem wp_region_invG {id : Nat} {Q : Exit → Act → World → Prop} {a : Act} {w : World} {l : List Oper} (INV : Array Bool → Act → World → Prop) (hm : P.follows .mixedOrders = true) (hb : backG l.toArray = true)
    (h0 : INV (Array.replicate l.toArray.size false) a { w with drawn := w.drawn + 1 })
    (hstep : ∀ (i : Nat) (listed : Array Bool) (a : Act) (w : World) (o : Oper), l.toArray[i]? = some o → listed.size = l.toArray.size → INV listed a w → listed.getD i true = false → (∀ e ∈ o.after, Region.binds .any e = true → listed.getD e.on false = true) →
      ∀ K : Act → World → Prop, (∀ a' w', INV (listed.setIfInBounds i true) a' w' → K a' w') → wpOp P l.toArray Q i K a w)
    (hend : ∀ (listed : Array Bool) (a : Act) (w : World), listed.size = l.toArray.size → INV listed a w → (∀ i, i < l.toArray.size → listed.getD i true = true) → Q .normal a w) :
    (Code.region id l.toArray true).wp P Q a w := by
  refine wp_region_any hm ?_
  have key : ∀ (f : Nat) (listed : Array Bool) (a : Act) (w : World), listed.size = l.toArray.size → (listed.toList.countP fun b => !b) ≤ f → INV listed a w → wpAny P .any l.toArray Q f listed a w := by
    intro f
    induction f with
    | zero =>
      intro listed a w hs hc hi
      have hall : ∀ i, i < l.toArray.size → listed.getD i true = true := by
        intro i hlt
        have h1 : (listed.toList.countP fun b => !b) = 0 := by omega
        have h2 := List.countP_eq_zero.1 h1
        have h3 : i < listed.size := by omega
        have h4 := h2 listed[i] (by simp)
        simp [h3]
        simpa using h4
      refine ⟨?_, hend listed a w hs hi hall⟩
      refine List.eq_nil_iff_forall_not_mem.2 fun i hmem => ?_
      obtain ⟨h1, o, ho, _⟩ := mem_ready.1 hmem
      have := hall i (Array.getElem?_eq_some_iff.1 ho).1
      rw [this] at h1
      cases h1
    | succ f ih =>
      intro listed a w hs hc hi
      refine ⟨fun hnil => hend listed a w hs hi fun i hlt => ready_nilG hb hnil (i + 1) i (by omega) hlt, fun i hmem => ?_⟩
      obtain ⟨h1, o, ho, h2⟩ := mem_ready.1 hmem
      refine hstep i listed a w o ho hs hi h1 h2 _ fun a' w' hi' => ih _ a' w' (by simpa using hs) ?_ hi'
      have hlt : i < listed.size := by rw [hs]; exact (Array.getElem?_eq_some_iff.1 ho).1
      have hset : (listed.setIfInBounds i true).toList = listed.toList.set i true := by simp
      rw [hset, List.countP_set (by simpa using hlt)]
      have hfi : listed.toList[i]'(by simpa using hlt) = false := by simp [hlt] at h1; simpa using h1
      rw [hfi]
      show (listed.toList.countP fun b => !b) - 1 + 0 ≤ f
      omega
  exact key _ _ a _ (by simp) (by have := List.countP_le_length (p := fun b => !b) (l := (Array.replicate l.toArray.size false).toList); simpa using this) h0
end
section
variable {P : Program} {ops : Array Oper} {Q : Exit → Act → World → Prop}
theorem wp_region_frG {id : Nat} {a : Act} {w : World} {l : List Oper} (S : List Nat) (tab : List (Nat × Nat × Value)) (J : Array Bool → Act → World → Prop) (hm : P.follows .mixedOrders = true) (hb : backG l.toArray = true) (htab : tab.all (fun p => decide (p.1 < l.toArray.size)) = true)
    (h0 : J (Array.replicate l.toArray.size false) a { w with drawn := w.drawn + 1 })
    (hstep : StepsOk P l.toArray Q S tab J a l 0)
    (hend : ∀ (listed : Array Bool) (a' : Act) (w' : World), Fr S a a' → Vals tab listed a' → J listed a' w' → (∀ i, i < l.toArray.size → listed.getD i true = true) → Q .normal a' w') :
    (Code.region id l.toArray true).wp P Q a w := by
  refine wp_region_invG (fun listed a' w' => Fr S a a' ∧ Vals tab listed a' ∧ J listed a' w') hm hb ⟨Fr.refl _ _, Vals.none htab, h0⟩ ?_ ?_
  · intro i listed a' w' o ho hs hi hun hdep K hK
    have := StepsOk.at l 0 hstep i o (by simpa using ho)
    rw [Nat.zero_add] at this
    refine this listed a' w' hi.1 hi.2.1 hi.2.2 hun (fun j hj => ?_) K fun a'' w'' h1 h2 h3 => hK a'' w'' ⟨h1, h2, h3⟩
    obtain ⟨x, hx, hb'⟩ := Array.any_eq_true.1 hj
    simp only [Bool.and_eq_true, beq_iff_eq] at hb'
    have := hdep _ (Array.getElem_mem hx) hb'.2
    rw [hb'.1] at this
    exact getD_both' this
  · intro listed a' w' hs hi hall
    exact hend listed a' w' hi.1 hi.2.1 hi.2.2 hall
end
theorem Vals.setAt {tab : List (Nat × Nat × Value)} {listed : Array Bool} {a : Act} {i d : Nat} {v : Value} (h : Vals tab listed a) (k : Nat) (hk : tab[k]? = some (i, d, v)) (hn : (tab.map Prod.fst).Nodup) (hchk : tab.all (fun p => decide (p.1 = i ↔ p.2.1 = d)) = true) (hd : d < a.tmps.size) :
    Vals tab (listed.setIfInBounds i true) (a.put (some d) v) :=
  h.set hd hchk fun p hp e => by
    obtain ⟨j, hj, rfl⟩ := List.mem_iff_getElem.1 hp
    obtain ⟨hkl, hke⟩ := List.getElem?_eq_some_iff.1 hk
    have hjk : j = k := by
      rcases Nat.lt_trichotomy j k with q | q | q
      · have := List.pairwise_iff_getElem.1 hn j k (by simpa using hj) (by simpa using hkl) q
        simp [e, hke] at this
      · exact q
      · have := List.pairwise_iff_getElem.1 hn k j (by simpa using hkl) (by simpa using hj) q
        simp [e, hke] at this
    subst hjk
    rw [hke]
theorem st_assign {P : Program} {ops : Array Oper} {Q : Exit → Act → World → Prop} {i : Nat} {dst : Option Tmp} {x : Operand} {ty : TypeId} {pos : String} {after : Array Edge} {K : Act → World → Prop} {a : Act} {w : World} (v : Value) (ho : ops[i]? = some ⟨dst, .assign x, ty, pos, after, none⟩) (hx : a.eval x = v) (h : K (a.put dst v) w) : wpOp P ops Q i K a w :=
  st_gen ho (by subst hx; exact h)
/-- An operation whose guard is off. -/
theorem st_off {P : Program} {ops : Array Oper} {Q : Exit → Act → World → Prop} {i g d : Nat} {b : Bool} {dst : Option Tmp} {op : Op} {ty : TypeId} {pos : String} {after : Array Edge} {K : Act → World → Prop} {a : Act} {w : World}
    (ho : ops[i]? = some ⟨dst, op, ty, pos, after, some (g, b)⟩) (hg : (ops[g]?).bind (·.dst) = some d) (hd : d < a.tmps.size) (hv : slotOf a d = .bool (!b)) (h : K (a.put dst undef) w) : wpOp P ops Q i K a w := by
  have hy : yielded ops a.tmps g = some (!b) := by
    unfold yielded
    rw [hg]
    unfold slotOf at hv
    have : a.tmps[d]? = some (.bool (!b)) := by
      rw [← hv]
      simp [hd]
    show (match a.tmps[d]? with | some (.bool b) => some b | _ => none) = _
    rw [this]
  unfold wpOp
  rw [ho]
  have hw : Region.wanted (⟨dst, op, ty, pos, after, some (g, b)⟩ : Oper) (yielded ops a.tmps) = false := by
    show (yielded ops a.tmps g == some b) = false
    rw [hy]
    cases b <;> rfl
  show if Region.wanted _ (yielded ops a.tmps) = true then _ else _
  rw [hw]
  exact h
end Go.Proofs.YtdemhabgaimnmaaGreatDoor
