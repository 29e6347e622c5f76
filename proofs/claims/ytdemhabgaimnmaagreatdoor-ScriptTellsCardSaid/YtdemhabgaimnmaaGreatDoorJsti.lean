/- The text of a Tick. -/
import Derived.Test.YtdemhabgaimnmaaGreatDoorJsth
namespace Go.Proofs.YtdemhabgaimnmaaGreatDoor
open Go.RowKit
set_option maxRecDepth 100000
set_option linter.unusedVariables false

set_option maxHeartbeats 1000000 in
theorem handle_zero (w : World) : Calls Tryz.prog 53 #[.agg #[.int .i64 0, .int .i64 0]] w fun e w' => e = .returned (.string ⟨#[48, 46, 48]⟩) ∧ Below w.heap.size w w' := by
  have HI : Hid (∀ W, Calls Tryz.prog 35 #[.int .i64 0] W fun e w' => e = .returned (.string ⟨#[48]⟩) ∧ w' = W) := Go.Lib.hid (fun W => itoa_digit 0 (by decide) W)
  go_enter Tryz.func53, Tryz.ntmps53
  go_wp2_with fail
  have d0 : (w.alloc (.cells #[.int .i64 0, .int .i64 0] 54)).cell? ⟨w.heap.size, 0, none⟩ = some (.int .i64 0) := by go_simp
  have d1 : (w.alloc (.cells #[.int .i64 0, .int .i64 0] 54)).cell? ⟨w.heap.size, 1, none⟩ = some (.int .i64 0) := by go_simp
  have HB := Go.Lib.hid ((Below.refl _ w).alloc (Nat.le_refl _) (.cells #[.int .i64 0, .int .i64 0] 54))
  generalize (w.alloc (.cells #[.int .i64 0, .int .i64 0] 54)) = W0 at *
  go_quiet ((go_at_call 35; refine Calls.quiet_of_same (HI.out _)))
  go_wp2
  go_ret
  exact ⟨by first | rfl | (congr 1), HB.out.trans ((below_drewN nq).mono HB.out.size)⟩

/-- What the slots hold while the texts are laid into a slice. -/
def tab14 (b T : Nat) : List (Nat × Nat × Value) := [(0, 48, .pointer (some ⟨b, 3, none⟩)), (1, 49, .agg #[.int .i64 0, .int .i64 0]), (2, 50, .string ⟨#[48, 46, 48]⟩), (3, 51, .pointer (some ⟨b, 5, none⟩)), (4, 52, .agg #[.int .i64 0, .int .i64 0]), (5, 53, .string ⟨#[48, 46, 48]⟩), (6, 54, .pointer (some ⟨b, 7, none⟩)), (7, 55, .int .i64 (T : Nat)), (8, 56, .string (digS T)), (9, 57, .pointer (some ⟨b, 8, none⟩)), (10, 58, .int .i64 0), (11, 59, .string ⟨#[48]⟩), (12, 60, .pointer (some ⟨b, 9, none⟩)), (13, 61, .int .i64 0), (14, 62, .string ⟨#[48]⟩), (15, 63, .string ⟨#[110, 111]⟩), (16, 64, .pointer (some ⟨b, 11, none⟩)), (17, 65, .int .i64 0), (18, 66, .string ⟨#[48]⟩)]
theorem tab14_r (b T : Nat) : (tab14 b T).map Prod.fst = List.range (tab14 b T).length := rfl
theorem tab14_n (b T : Nat) : ((tab14 b T).map fun p => p.2.1).Nodup := by
  show [48, 49, 50, 51, 52, 53, 54, 55, 56, 57, 58, 59, 60, 61, 62, 63, 64, 65, 66].Nodup
  decide
theorem tab14_19 (b T : Nat) : (tab14 b T).all (fun p => decide (p.1 ≠ 19 ∧ p.2.1 ≠ 67)) = true := rfl
theorem tab14_20 (b T : Nat) : (tab14 b T).all (fun p => decide (p.1 ≠ 20 ∧ p.2.1 ≠ 68)) = true := rfl
theorem tab14_21 (b T : Nat) : (tab14 b T).all (fun p => decide (p.1 ≠ 21 ∧ p.2.1 ≠ 69)) = true := rfl
structure J14 (w0 : World) (T : Nat) (listed : Array Bool) (a : Act) (w : World) : Prop where
  bw : Below w0.heap.size w0 w
  al : listed.getD 19 true = true → ∃ g, slotOf a 67 = .slice (some ⟨g, 0, none⟩) 7 7 ∧ w.heap[g]? = some (.cells #[.string ⟨#[48, 46, 48]⟩, .string ⟨#[48, 46, 48]⟩, .string (digS T), .string ⟨#[48]⟩, .string ⟨#[48]⟩, .string ⟨#[110, 111]⟩, .string ⟨#[48]⟩] 9)
  ln : listed.getD 20 true = true → slotOf a 68 = .int .i64 7
  z : listed.getD 21 true = true → slotOf a 69 = .int .i64 0
theorem J14.quiet {w0 : World} {T : Nat} {listed : Array Bool} {a : Act} {w w' : World} {i d : Nat} {v : Value} (h : J14 w0 T listed a w) (hi : i ≠ 19 ∧ i ≠ 20 ∧ i ≠ 21) (hd : d ≠ 67 ∧ d ≠ 68 ∧ d ≠ 69) (hb : Below w.heap.size w w') :
    J14 w0 T (listed.setIfInBounds i true) (a.put (some d) v) w' := by
  refine ⟨h.bw.trans (hb.mono h.bw.size), ?_, ?_, ?_⟩
  · rw [getD_set_other _ (Ne.symm hi.1), slot_put_other (Ne.symm hd.1)]
    intro q
    obtain ⟨g, e, hr⟩ := h.al q
    exact ⟨g, e, row_below hb hr⟩
  · rw [getD_set_other _ (Ne.symm hi.2.1), slot_put_other (Ne.symm hd.2.1)]; exact h.ln
  · rw [getD_set_other _ (Ne.symm hi.2.2), slot_put_other (Ne.symm hd.2.2)]; exact h.z
theorem J14.alloc {w0 : World} {T : Nat} {listed : Array Bool} {a : Act} {w : World} (h : J14 w0 T listed a w) (hds : 67 < a.tmps.size) :
    J14 w0 T (listed.setIfInBounds 19 true) (a.put (some 67) (.slice (some ⟨w.heap.size, 0, none⟩) 7 7)) (w.alloc (.cells #[.string ⟨#[48, 46, 48]⟩, .string ⟨#[48, 46, 48]⟩, .string (digS T), .string ⟨#[48]⟩, .string ⟨#[48]⟩, .string ⟨#[110, 111]⟩, .string ⟨#[48]⟩] 9)) := by
  have hb : Below w.heap.size w (w.alloc (.cells #[.string ⟨#[48, 46, 48]⟩, .string ⟨#[48, 46, 48]⟩, .string (digS T), .string ⟨#[48]⟩, .string ⟨#[48]⟩, .string ⟨#[110, 111]⟩, .string ⟨#[48]⟩] 9)) := (Below.refl _ _).alloc (Nat.le_refl _) _
  refine ⟨h.bw.trans (hb.mono h.bw.size), fun _ => ⟨w.heap.size, slot_put_same hds, heap_alloc_new w _⟩, ?_, ?_⟩
  · rw [getD_set_other _ (by decide), slot_put_other (by decide)]; exact h.ln
  · rw [getD_set_other _ (by decide), slot_put_other (by decide)]; exact h.z
theorem J14.len {w0 : World} {T : Nat} {listed : Array Bool} {a : Act} {w : World} (h : J14 w0 T listed a w) (hds : 68 < a.tmps.size) :
    J14 w0 T (listed.setIfInBounds 20 true) (a.put (some 68) (.int .i64 7)) w := by
  refine ⟨h.bw, ?_, fun _ => slot_put_same hds, ?_⟩
  · rw [getD_set_other _ (by decide), slot_put_other (by decide)]; exact h.al
  · rw [getD_set_other _ (by decide), slot_put_other (by decide)]; exact h.z
theorem J14.zero {w0 : World} {T : Nat} {listed : Array Bool} {a : Act} {w : World} (h : J14 w0 T listed a w) (hds : 69 < a.tmps.size) :
    J14 w0 T (listed.setIfInBounds 21 true) (a.put (some 69) (.int .i64 0)) w := by
  refine ⟨h.bw, ?_, ?_, fun _ => slot_put_same hds⟩
  · rw [getD_set_other _ (by decide), slot_put_other (by decide)]; exact h.al
  · rw [getD_set_other _ (by decide), slot_put_other (by decide)]; exact h.ln
/-- A Tick's text. -/
def lineT (T : Nat) : ByteArray := ⟨#[116, 105, 99, 107]⟩ ++ (⟨#[32]⟩ ++ digS T)
set_option maxHeartbeats 4000000 in
theorem line_tick (T : Nat) (hT : T < 10) (w : World) : Calls Tryz.prog 34 #[.agg #[.int .i64 1, .int .i64 0, .int .i64 0, .int .i64 0, .int .i64 0, .int .i64 0, .int .i64 0, .int .i64 (T : Nat), .int .i64 0, .int .i64 0, .bool false, .int .i64 0]] w fun e w' => e = .returned (.string (lineT T)) ∧ Below w.heap.size w w' := by
  have HR := Go.Lib.hid (fun W => tick_right (T : Nat) (by omega) W)
  have HF := Go.Lib.hid (fun W => tick_fields (T : Nat) W)
  have HI0 : Hid (∀ W, Calls Tryz.prog 35 #[.int .i64 0] W fun e w' => e = .returned (.string ⟨#[48]⟩) ∧ w' = W) := Go.Lib.hid (fun W => itoa_digit 0 (by decide) W)
  have HIT := Go.Lib.hid (fun W => itoa_digit T hT W)
  have HH := Go.Lib.hid (fun W => handle_zero W)
  have HB := Go.Lib.hid ((Below.refl _ w).alloc (Nat.le_refl _) (.cells #[.int .i64 1, .int .i64 0, .int .i64 0, .int .i64 0, .int .i64 0, .int .i64 0, .int .i64 0, .int .i64 (T : Nat), .int .i64 0, .int .i64 0, .bool false, .int .i64 0] 85))
  have hr := heap_alloc_new w (.cells #[.int .i64 1, .int .i64 0, .int .i64 0, .int .i64 0, .int .i64 0, .int .i64 0, .int .i64 0, .int .i64 (T : Nat), .int .i64 0, .int .i64 0, .bool false, .int .i64 0] 85)
  have c0 : (w.alloc (.cells #[.int .i64 1, .int .i64 0, .int .i64 0, .int .i64 0, .int .i64 0, .int .i64 0, .int .i64 0, .int .i64 (T : Nat), .int .i64 0, .int .i64 0, .bool false, .int .i64 0] 85)).cell? ⟨w.heap.size, 0, none⟩ = some (.int .i64 1) := cell_of_row _ _ _ _ _ _ hr
  have c1 : (w.alloc (.cells #[.int .i64 1, .int .i64 0, .int .i64 0, .int .i64 0, .int .i64 0, .int .i64 0, .int .i64 0, .int .i64 (T : Nat), .int .i64 0, .int .i64 0, .bool false, .int .i64 0] 85)).cell? ⟨w.heap.size, 1, none⟩ = some (.int .i64 0) := cell_of_row _ _ _ _ _ _ hr
  have c2 : (w.alloc (.cells #[.int .i64 1, .int .i64 0, .int .i64 0, .int .i64 0, .int .i64 0, .int .i64 0, .int .i64 0, .int .i64 (T : Nat), .int .i64 0, .int .i64 0, .bool false, .int .i64 0] 85)).cell? ⟨w.heap.size, 2, none⟩ = some (.int .i64 0) := cell_of_row _ _ _ _ _ _ hr
  have c3 : (w.alloc (.cells #[.int .i64 1, .int .i64 0, .int .i64 0, .int .i64 0, .int .i64 0, .int .i64 0, .int .i64 0, .int .i64 (T : Nat), .int .i64 0, .int .i64 0, .bool false, .int .i64 0] 85)).cell? ⟨w.heap.size, 3, none⟩ = some (.int .i64 0) := cell_of_row _ _ _ _ _ _ hr
  have c4 : (w.alloc (.cells #[.int .i64 1, .int .i64 0, .int .i64 0, .int .i64 0, .int .i64 0, .int .i64 0, .int .i64 0, .int .i64 (T : Nat), .int .i64 0, .int .i64 0, .bool false, .int .i64 0] 85)).cell? ⟨w.heap.size, 4, none⟩ = some (.int .i64 0) := cell_of_row _ _ _ _ _ _ hr
  have c5 : (w.alloc (.cells #[.int .i64 1, .int .i64 0, .int .i64 0, .int .i64 0, .int .i64 0, .int .i64 0, .int .i64 0, .int .i64 (T : Nat), .int .i64 0, .int .i64 0, .bool false, .int .i64 0] 85)).cell? ⟨w.heap.size, 5, none⟩ = some (.int .i64 0) := cell_of_row _ _ _ _ _ _ hr
  have c6 : (w.alloc (.cells #[.int .i64 1, .int .i64 0, .int .i64 0, .int .i64 0, .int .i64 0, .int .i64 0, .int .i64 0, .int .i64 (T : Nat), .int .i64 0, .int .i64 0, .bool false, .int .i64 0] 85)).cell? ⟨w.heap.size, 6, none⟩ = some (.int .i64 0) := cell_of_row _ _ _ _ _ _ hr
  have c7 : (w.alloc (.cells #[.int .i64 1, .int .i64 0, .int .i64 0, .int .i64 0, .int .i64 0, .int .i64 0, .int .i64 0, .int .i64 (T : Nat), .int .i64 0, .int .i64 0, .bool false, .int .i64 0] 85)).cell? ⟨w.heap.size, 7, none⟩ = some (.int .i64 (T : Nat)) := cell_of_row _ _ _ _ _ _ hr
  have c8 : (w.alloc (.cells #[.int .i64 1, .int .i64 0, .int .i64 0, .int .i64 0, .int .i64 0, .int .i64 0, .int .i64 0, .int .i64 (T : Nat), .int .i64 0, .int .i64 0, .bool false, .int .i64 0] 85)).cell? ⟨w.heap.size, 8, none⟩ = some (.int .i64 0) := cell_of_row _ _ _ _ _ _ hr
  have c9 : (w.alloc (.cells #[.int .i64 1, .int .i64 0, .int .i64 0, .int .i64 0, .int .i64 0, .int .i64 0, .int .i64 0, .int .i64 (T : Nat), .int .i64 0, .int .i64 0, .bool false, .int .i64 0] 85)).cell? ⟨w.heap.size, 9, none⟩ = some (.int .i64 0) := cell_of_row _ _ _ _ _ _ hr
  have c10 : (w.alloc (.cells #[.int .i64 1, .int .i64 0, .int .i64 0, .int .i64 0, .int .i64 0, .int .i64 0, .int .i64 0, .int .i64 (T : Nat), .int .i64 0, .int .i64 0, .bool false, .int .i64 0] 85)).cell? ⟨w.heap.size, 10, none⟩ = some (.bool false) := cell_of_row _ _ _ _ _ _ hr
  have c11 : (w.alloc (.cells #[.int .i64 1, .int .i64 0, .int .i64 0, .int .i64 0, .int .i64 0, .int .i64 0, .int .i64 0, .int .i64 (T : Nat), .int .i64 0, .int .i64 0, .bool false, .int .i64 0] 85)).cell? ⟨w.heap.size, 11, none⟩ = some (.int .i64 0) := cell_of_row _ _ _ _ _ _ hr
  have HX := Go.Lib.hid hr
  clear hr
  go_enter Tryz.func34, Tryz.ntmps34
  go_wp2_with fail
  generalize (w.alloc (.cells #[.int .i64 1, .int .i64 0, .int .i64 0, .int .i64 0, .int .i64 0, .int .i64 0, .int .i64 0, .int .i64 (T : Nat), .int .i64 0, .int .i64 0, .bool false, .int .i64 0] 85)) = W0 at *
  refine (HR.out _).mono ?_
  rintro e w2 ⟨rfl, hb2⟩
  have hr2 := row_below hb2 HX.out
  have HB2 := Go.Lib.hid (HB.out.trans (hb2.mono HB.out.size))
  clear c0 c1 c2 c3 c4 c5 c6 c7 c8 c9 c10 c11 hb2 HB HX
  have c0 : w2.cell? ⟨w.heap.size, 0, none⟩ = some (.int .i64 1) := cell_of_row _ _ _ _ _ _ hr2
  have c1 : w2.cell? ⟨w.heap.size, 1, none⟩ = some (.int .i64 0) := cell_of_row _ _ _ _ _ _ hr2
  have c2 : w2.cell? ⟨w.heap.size, 2, none⟩ = some (.int .i64 0) := cell_of_row _ _ _ _ _ _ hr2
  have c3 : w2.cell? ⟨w.heap.size, 3, none⟩ = some (.int .i64 0) := cell_of_row _ _ _ _ _ _ hr2
  have c4 : w2.cell? ⟨w.heap.size, 4, none⟩ = some (.int .i64 0) := cell_of_row _ _ _ _ _ _ hr2
  have c5 : w2.cell? ⟨w.heap.size, 5, none⟩ = some (.int .i64 0) := cell_of_row _ _ _ _ _ _ hr2
  have c6 : w2.cell? ⟨w.heap.size, 6, none⟩ = some (.int .i64 0) := cell_of_row _ _ _ _ _ _ hr2
  have c7 : w2.cell? ⟨w.heap.size, 7, none⟩ = some (.int .i64 (T : Nat)) := cell_of_row _ _ _ _ _ _ hr2
  have c8 : w2.cell? ⟨w.heap.size, 8, none⟩ = some (.int .i64 0) := cell_of_row _ _ _ _ _ _ hr2
  have c9 : w2.cell? ⟨w.heap.size, 9, none⟩ = some (.int .i64 0) := cell_of_row _ _ _ _ _ _ hr2
  have c10 : w2.cell? ⟨w.heap.size, 10, none⟩ = some (.bool false) := cell_of_row _ _ _ _ _ _ hr2
  have c11 : w2.cell? ⟨w.heap.size, 11, none⟩ = some (.int .i64 0) := cell_of_row _ _ _ _ _ _ hr2
  have HX2 := Go.Lib.hid hr2
  have hz := heap_lt0 hr2
  clear hr2
  go_wp2_with fail
  refine (HF.out _).mono ?_
  rintro e w3 ⟨rfl, hb3⟩
  have hbq : Below w2.heap.size w2 w3 := (((Below.refl _ _).alloc (Nat.le_refl _) _).alloc (by simp) _).trans (hb3.mono (by simp; omega))
  have hr3 := row_below hbq HX2.out
  have HB3 := Go.Lib.hid (HB2.out.trans (hbq.mono HB2.out.size))
  clear hb3 hbq c0 c1 c2 c3 c4 c5 c6 c7 c8 c9 c10 c11 HX2 HB2 hz
  have c0 : w3.cell? ⟨w.heap.size, 0, none⟩ = some (.int .i64 1) := cell_of_row _ _ _ _ _ _ hr3
  have c1 : w3.cell? ⟨w.heap.size, 1, none⟩ = some (.int .i64 0) := cell_of_row _ _ _ _ _ _ hr3
  have c2 : w3.cell? ⟨w.heap.size, 2, none⟩ = some (.int .i64 0) := cell_of_row _ _ _ _ _ _ hr3
  have c3 : w3.cell? ⟨w.heap.size, 3, none⟩ = some (.int .i64 0) := cell_of_row _ _ _ _ _ _ hr3
  have c4 : w3.cell? ⟨w.heap.size, 4, none⟩ = some (.int .i64 0) := cell_of_row _ _ _ _ _ _ hr3
  have c5 : w3.cell? ⟨w.heap.size, 5, none⟩ = some (.int .i64 0) := cell_of_row _ _ _ _ _ _ hr3
  have c6 : w3.cell? ⟨w.heap.size, 6, none⟩ = some (.int .i64 0) := cell_of_row _ _ _ _ _ _ hr3
  have c7 : w3.cell? ⟨w.heap.size, 7, none⟩ = some (.int .i64 (T : Nat)) := cell_of_row _ _ _ _ _ _ hr3
  have c8 : w3.cell? ⟨w.heap.size, 8, none⟩ = some (.int .i64 0) := cell_of_row _ _ _ _ _ _ hr3
  have c9 : w3.cell? ⟨w.heap.size, 9, none⟩ = some (.int .i64 0) := cell_of_row _ _ _ _ _ _ hr3
  have c10 : w3.cell? ⟨w.heap.size, 10, none⟩ = some (.bool false) := cell_of_row _ _ _ _ _ _ hr3
  have c11 : w3.cell? ⟨w.heap.size, 11, none⟩ = some (.int .i64 0) := cell_of_row _ _ _ _ _ _ hr3
  have HX3 := Go.Lib.hid hr3
  clear hr3
  go_wp2_with fail
  go_cut [67, 68, 69] from 48 to 66 (fun x y z wx => ∃ g, x = .slice (some ⟨g, 0, none⟩) 7 7 ∧ y = .int .i64 7 ∧ z = .int .i64 0 ∧ wx.heap[g]? = some (.cells #[.string ⟨#[48, 46, 48]⟩, .string ⟨#[48, 46, 48]⟩, .string (digS T), .string ⟨#[48]⟩, .string ⟨#[48]⟩, .string ⟨#[110, 111]⟩, .string ⟨#[48]⟩] 9) ∧ Below w3.heap.size w3 wx)
  case first =>
    rename_i J1 K1 hJ1 hK1
    refine wp_region_fr [48, 49, 50, 51, 52, 53, 54, 55, 56, 57, 58, 59, 60, 61, 62, 63, 64, 65, 66, 67, 68, 69] (tab14 w.heap.size T) (J14 w3 T) (by kernel_rfl) (by kernel_rfl) (by kernel_rfl) ⟨(Below.refl _ _).drew, fun q => by simp at q, fun q => by simp at q, fun q => by simp at q⟩ ?_ ?_
    · refine ⟨?_, ?_, ?_, ?_, ?_, ?_, ?_, ?_, ?_, ?_, ?_, ?_, ?_, ?_, ?_, ?_, ?_, ?_, ?_, ?_, ?_, ?_, trivial⟩
      · intro listed a' w' hf hv hj hun hdep K hK
        have hsz : a'.tmps.size = 85 := hf.size
        have e1 : slotOf a' 1 = .pointer (some ⟨w.heap.size, 0, none⟩) := (hf.rest 1 (by decide)).trans rfl
        refine st_gen rfl ?_
        unfold Oper.wp execOp
        dsimp only
        rw [slot_eval, e1]
        go_simp
        exact hK _ _ (hf.put (by decide)) (hv.done (tab14_r _ _) (tab14_n _ _) rfl (by rw [hsz]; decide)) (hj.quiet (by decide) (by decide) (Below.refl _ _))
      · intro listed a' w' hf hv hj hun hdep K hK
        have hsz : a'.tmps.size = 85 := hf.size
        have e48 := hv.get 0 rfl (hdep 0 (by kernel_rfl))
        have q3 : w'.cell? ⟨w.heap.size, 3, none⟩ = some (.int .i64 0) := below_cell hj.bw c3
        have q4 : w'.cell? ⟨w.heap.size, 4, none⟩ = some (.int .i64 0) := below_cell hj.bw c4
        refine st_gen rfl ?_
        unfold Oper.wp execOp
        dsimp only
        rw [slot_eval, e48]
        go_simp
        exact hK _ _ (hf.put (by decide)) (hv.done (tab14_r _ _) (tab14_n _ _) rfl (by rw [hsz]; decide)) (hj.quiet (by decide) (by decide) (Below.refl _ _))
      · intro listed a' w' hf hv hj hun hdep K hK
        have hsz : a'.tmps.size = 85 := hf.size
        have e49 := hv.get 1 rfl (hdep 1 (by kernel_rfl))
        refine st_call #[.agg #[.int .i64 0, .int .i64 0]] rfl (enters_of Tryz.func53 (by kernel_rfl) rfl) (by simp [slot_eval, e49]) ?_
        refine (HH.out _).mono ?_
        rintro e w2 ⟨rfl, hb⟩
        exact ⟨_, rfl, hK _ _ (hf.put (by decide)) (hv.done (tab14_r _ _) (tab14_n _ _) rfl (by rw [hsz]; decide)) (hj.quiet (by decide) (by decide) hb)⟩
      · intro listed a' w' hf hv hj hun hdep K hK
        have hsz : a'.tmps.size = 85 := hf.size
        have e1 : slotOf a' 1 = .pointer (some ⟨w.heap.size, 0, none⟩) := (hf.rest 1 (by decide)).trans rfl
        refine st_gen rfl ?_
        unfold Oper.wp execOp
        dsimp only
        rw [slot_eval, e1]
        go_simp
        exact hK _ _ (hf.put (by decide)) (hv.done (tab14_r _ _) (tab14_n _ _) rfl (by rw [hsz]; decide)) (hj.quiet (by decide) (by decide) (Below.refl _ _))
      · intro listed a' w' hf hv hj hun hdep K hK
        have hsz : a'.tmps.size = 85 := hf.size
        have e51 := hv.get 3 rfl (hdep 3 (by kernel_rfl))
        have q5 : w'.cell? ⟨w.heap.size, 5, none⟩ = some (.int .i64 0) := below_cell hj.bw c5
        have q6 : w'.cell? ⟨w.heap.size, 6, none⟩ = some (.int .i64 0) := below_cell hj.bw c6
        refine st_gen rfl ?_
        unfold Oper.wp execOp
        dsimp only
        rw [slot_eval, e51]
        go_simp
        exact hK _ _ (hf.put (by decide)) (hv.done (tab14_r _ _) (tab14_n _ _) rfl (by rw [hsz]; decide)) (hj.quiet (by decide) (by decide) (Below.refl _ _))
      · intro listed a' w' hf hv hj hun hdep K hK
        have hsz : a'.tmps.size = 85 := hf.size
        have e52 := hv.get 4 rfl (hdep 4 (by kernel_rfl))
        refine st_call #[.agg #[.int .i64 0, .int .i64 0]] rfl (enters_of Tryz.func53 (by kernel_rfl) rfl) (by simp [slot_eval, e52]) ?_
        refine (HH.out _).mono ?_
        rintro e w2 ⟨rfl, hb⟩
        exact ⟨_, rfl, hK _ _ (hf.put (by decide)) (hv.done (tab14_r _ _) (tab14_n _ _) rfl (by rw [hsz]; decide)) (hj.quiet (by decide) (by decide) hb)⟩
      · intro listed a' w' hf hv hj hun hdep K hK
        have hsz : a'.tmps.size = 85 := hf.size
        have e1 : slotOf a' 1 = .pointer (some ⟨w.heap.size, 0, none⟩) := (hf.rest 1 (by decide)).trans rfl
        refine st_gen rfl ?_
        unfold Oper.wp execOp
        dsimp only
        rw [slot_eval, e1]
        go_simp
        exact hK _ _ (hf.put (by decide)) (hv.done (tab14_r _ _) (tab14_n _ _) rfl (by rw [hsz]; decide)) (hj.quiet (by decide) (by decide) (Below.refl _ _))
      · intro listed a' w' hf hv hj hun hdep K hK
        have hsz : a'.tmps.size = 85 := hf.size
        have e54 := hv.get 6 rfl (hdep 6 (by kernel_rfl))
        have q7 : w'.cell? ⟨w.heap.size, 7, none⟩ = some (.int .i64 (T : Nat)) := below_cell hj.bw c7
        refine st_gen rfl ?_
        unfold Oper.wp execOp
        dsimp only
        rw [slot_eval, e54]
        go_simp
        exact hK _ _ (hf.put (by decide)) (hv.done (tab14_r _ _) (tab14_n _ _) rfl (by rw [hsz]; decide)) (hj.quiet (by decide) (by decide) (Below.refl _ _))
      · intro listed a' w' hf hv hj hun hdep K hK
        have hsz : a'.tmps.size = 85 := hf.size
        have e55 := hv.get 7 rfl (hdep 7 (by kernel_rfl))
        refine st_call #[.int .i64 (T : Nat)] rfl (enters_of Tryz.func35 (by kernel_rfl) rfl) (by simp [slot_eval, e55]) ?_
        refine (HIT.out _).mono ?_
        rintro e w2 ⟨rfl, rfl⟩
        exact ⟨_, rfl, hK _ _ (hf.put (by decide)) (hv.done (tab14_r _ _) (tab14_n _ _) rfl (by rw [hsz]; decide)) (hj.quiet (by decide) (by decide) (Below.refl _ _))⟩
      · intro listed a' w' hf hv hj hun hdep K hK
        have hsz : a'.tmps.size = 85 := hf.size
        have e1 : slotOf a' 1 = .pointer (some ⟨w.heap.size, 0, none⟩) := (hf.rest 1 (by decide)).trans rfl
        refine st_gen rfl ?_
        unfold Oper.wp execOp
        dsimp only
        rw [slot_eval, e1]
        go_simp
        exact hK _ _ (hf.put (by decide)) (hv.done (tab14_r _ _) (tab14_n _ _) rfl (by rw [hsz]; decide)) (hj.quiet (by decide) (by decide) (Below.refl _ _))
      · intro listed a' w' hf hv hj hun hdep K hK
        have hsz : a'.tmps.size = 85 := hf.size
        have e57 := hv.get 9 rfl (hdep 9 (by kernel_rfl))
        have q8 : w'.cell? ⟨w.heap.size, 8, none⟩ = some (.int .i64 0) := below_cell hj.bw c8
        refine st_gen rfl ?_
        unfold Oper.wp execOp
        dsimp only
        rw [slot_eval, e57]
        go_simp
        exact hK _ _ (hf.put (by decide)) (hv.done (tab14_r _ _) (tab14_n _ _) rfl (by rw [hsz]; decide)) (hj.quiet (by decide) (by decide) (Below.refl _ _))
      · intro listed a' w' hf hv hj hun hdep K hK
        have hsz : a'.tmps.size = 85 := hf.size
        have e58 := hv.get 10 rfl (hdep 10 (by kernel_rfl))
        refine st_call #[.int .i64 0] rfl (enters_of Tryz.func35 (by kernel_rfl) rfl) (by simp [slot_eval, e58]) ?_
        refine (HI0.out _).mono ?_
        rintro e w2 ⟨rfl, rfl⟩
        exact ⟨_, rfl, hK _ _ (hf.put (by decide)) (hv.done (tab14_r _ _) (tab14_n _ _) rfl (by rw [hsz]; decide)) (hj.quiet (by decide) (by decide) (Below.refl _ _))⟩
      · intro listed a' w' hf hv hj hun hdep K hK
        have hsz : a'.tmps.size = 85 := hf.size
        have e1 : slotOf a' 1 = .pointer (some ⟨w.heap.size, 0, none⟩) := (hf.rest 1 (by decide)).trans rfl
        refine st_gen rfl ?_
        unfold Oper.wp execOp
        dsimp only
        rw [slot_eval, e1]
        go_simp
        exact hK _ _ (hf.put (by decide)) (hv.done (tab14_r _ _) (tab14_n _ _) rfl (by rw [hsz]; decide)) (hj.quiet (by decide) (by decide) (Below.refl _ _))
      · intro listed a' w' hf hv hj hun hdep K hK
        have hsz : a'.tmps.size = 85 := hf.size
        have e60 := hv.get 12 rfl (hdep 12 (by kernel_rfl))
        have q9 : w'.cell? ⟨w.heap.size, 9, none⟩ = some (.int .i64 0) := below_cell hj.bw c9
        refine st_gen rfl ?_
        unfold Oper.wp execOp
        dsimp only
        rw [slot_eval, e60]
        go_simp
        exact hK _ _ (hf.put (by decide)) (hv.done (tab14_r _ _) (tab14_n _ _) rfl (by rw [hsz]; decide)) (hj.quiet (by decide) (by decide) (Below.refl _ _))
      · intro listed a' w' hf hv hj hun hdep K hK
        have hsz : a'.tmps.size = 85 := hf.size
        have e61 := hv.get 13 rfl (hdep 13 (by kernel_rfl))
        refine st_call #[.int .i64 0] rfl (enters_of Tryz.func35 (by kernel_rfl) rfl) (by simp [slot_eval, e61]) ?_
        refine (HI0.out _).mono ?_
        rintro e w2 ⟨rfl, rfl⟩
        exact ⟨_, rfl, hK _ _ (hf.put (by decide)) (hv.done (tab14_r _ _) (tab14_n _ _) rfl (by rw [hsz]; decide)) (hj.quiet (by decide) (by decide) (Below.refl _ _))⟩
      · intro listed a' w' hf hv hj hun hdep K hK
        have hsz : a'.tmps.size = 85 := hf.size
        refine st_move _ rfl ((hf.rest 8 (by decide)).trans rfl) ?_
        exact hK _ _ (hf.put (by decide)) (hv.done (tab14_r _ _) (tab14_n _ _) rfl (by rw [hsz]; decide)) (hj.quiet (by decide) (by decide) (Below.refl _ _))
      · intro listed a' w' hf hv hj hun hdep K hK
        have hsz : a'.tmps.size = 85 := hf.size
        have e1 : slotOf a' 1 = .pointer (some ⟨w.heap.size, 0, none⟩) := (hf.rest 1 (by decide)).trans rfl
        refine st_gen rfl ?_
        unfold Oper.wp execOp
        dsimp only
        rw [slot_eval, e1]
        go_simp
        exact hK _ _ (hf.put (by decide)) (hv.done (tab14_r _ _) (tab14_n _ _) rfl (by rw [hsz]; decide)) (hj.quiet (by decide) (by decide) (Below.refl _ _))
      · intro listed a' w' hf hv hj hun hdep K hK
        have hsz : a'.tmps.size = 85 := hf.size
        have e64 := hv.get 16 rfl (hdep 16 (by kernel_rfl))
        have q11 : w'.cell? ⟨w.heap.size, 11, none⟩ = some (.int .i64 0) := below_cell hj.bw c11
        refine st_gen rfl ?_
        unfold Oper.wp execOp
        dsimp only
        rw [slot_eval, e64]
        go_simp
        exact hK _ _ (hf.put (by decide)) (hv.done (tab14_r _ _) (tab14_n _ _) rfl (by rw [hsz]; decide)) (hj.quiet (by decide) (by decide) (Below.refl _ _))
      · intro listed a' w' hf hv hj hun hdep K hK
        have hsz : a'.tmps.size = 85 := hf.size
        have e65 := hv.get 17 rfl (hdep 17 (by kernel_rfl))
        refine st_call #[.int .i64 0] rfl (enters_of Tryz.func35 (by kernel_rfl) rfl) (by simp [slot_eval, e65]) ?_
        refine (HI0.out _).mono ?_
        rintro e w2 ⟨rfl, rfl⟩
        exact ⟨_, rfl, hK _ _ (hf.put (by decide)) (hv.done (tab14_r _ _) (tab14_n _ _) rfl (by rw [hsz]; decide)) (hj.quiet (by decide) (by decide) (Below.refl _ _))⟩
      · intro listed a' w' hf hv hj hun hdep K hK
        have hsz : a'.tmps.size = 85 := hf.size
        have e50 : a'.tmps[50]'(by rw [hsz]; decide) = .string ⟨#[48, 46, 48]⟩ := by have h := hv.get 2 rfl (hdep 2 (by kernel_rfl)); unfold slotOf at h; simpa [hsz] using h
        have e53 : a'.tmps[53]'(by rw [hsz]; decide) = .string ⟨#[48, 46, 48]⟩ := by have h := hv.get 5 rfl (hdep 5 (by kernel_rfl)); unfold slotOf at h; simpa [hsz] using h
        have e56 : a'.tmps[56]'(by rw [hsz]; decide) = .string (digS T) := by have h := hv.get 8 rfl (hdep 8 (by kernel_rfl)); unfold slotOf at h; simpa [hsz] using h
        have e59 : a'.tmps[59]'(by rw [hsz]; decide) = .string ⟨#[48]⟩ := by have h := hv.get 11 rfl (hdep 11 (by kernel_rfl)); unfold slotOf at h; simpa [hsz] using h
        have e62 : a'.tmps[62]'(by rw [hsz]; decide) = .string ⟨#[48]⟩ := by have h := hv.get 14 rfl (hdep 14 (by kernel_rfl)); unfold slotOf at h; simpa [hsz] using h
        have e63 : a'.tmps[63]'(by rw [hsz]; decide) = .string ⟨#[110, 111]⟩ := by have h := hv.get 15 rfl (hdep 15 (by kernel_rfl)); unfold slotOf at h; simpa [hsz] using h
        have e66 : a'.tmps[66]'(by rw [hsz]; decide) = .string ⟨#[48]⟩ := by have h := hv.get 18 rfl (hdep 18 (by kernel_rfl)); unfold slotOf at h; simpa [hsz] using h
        refine st_gen rfl ?_
        unfold Oper.wp execOp
        dsimp only
        go_simp
        exact hK _ _ (hf.put (by decide)) (hv.other (tab14_19 _ _)) (hj.alloc (by rw [hsz]; decide))
      · intro listed a' w' hf hv hj hun hdep K hK
        have hsz : a'.tmps.size = 85 := hf.size
        obtain ⟨g, e67, _⟩ := hj.al (hdep 19 (by kernel_rfl))
        have e67 : a'.tmps[67]'(by rw [hsz]; decide) = .slice (some ⟨g, 0, none⟩) 7 7 := by unfold slotOf at e67; simpa [hsz] using e67
        refine st_gen rfl ?_
        unfold Oper.wp execOp
        dsimp only
        go_simp
        exact hK _ _ (hf.put (by decide)) (hv.other (tab14_20 _ _)) (hj.len (by rw [hsz]; decide))
      · intro listed a' w' hf hv hj hun hdep K hK
        have hsz : a'.tmps.size = 85 := hf.size
        refine st_gen rfl ?_
        unfold Oper.wp execOp
        dsimp only
        go_simp
        exact hK _ _ (hf.put (by decide)) (hv.other (tab14_21 _ _)) (hj.zero (by rw [hsz]; decide))
    · intro listed a' w' hf hv hj hall
      obtain ⟨g, e67, hr⟩ := hj.al (hall 19 (by decide))
      have e68 := hj.ln (hall 20 (by decide))
      have e69 := hj.z (hall 21 (by decide))
      refine hK1 _ _ (Met.intro (hJ1 _ _ ⟨slotOf a' 48, slotOf a' 49, slotOf a' 50, slotOf a' 51, slotOf a' 52, slotOf a' 53, slotOf a' 54, slotOf a' 55, slotOf a' 56, slotOf a' 57, slotOf a' 58, slotOf a' 59, slotOf a' 60, slotOf a' 61, slotOf a' 62, slotOf a' 63, slotOf a' 64, slotOf a' 65, slotOf a' 66, slotOf a' 67, slotOf a' 68, slotOf a' 69, ⟨g, e67, e68, e69, hr, hj.bw⟩, ?lit⟩))
      refine hf.lit.trans ?_
      kernel_rfl
  case rest =>
    obtain ⟨g, rfl, rfl, rfl, hr, hbx⟩ := hcut
    have s0 : wc.cell? ⟨g, 0, none⟩ = some (.string ⟨#[48, 46, 48]⟩) := cell_of_row _ _ _ _ _ _ hr
    have s1 : wc.cell? ⟨g, 1, none⟩ = some (.string ⟨#[48, 46, 48]⟩) := cell_of_row _ _ _ _ _ _ hr
    have s2 : wc.cell? ⟨g, 2, none⟩ = some (.string (digS T)) := cell_of_row _ _ _ _ _ _ hr
    have s3 : wc.cell? ⟨g, 3, none⟩ = some (.string ⟨#[48]⟩) := cell_of_row _ _ _ _ _ _ hr
    have s4 : wc.cell? ⟨g, 4, none⟩ = some (.string ⟨#[48]⟩) := cell_of_row _ _ _ _ _ _ hr
    have s5 : wc.cell? ⟨g, 5, none⟩ = some (.string ⟨#[110, 111]⟩) := cell_of_row _ _ _ _ _ _ hr
    have s6 : wc.cell? ⟨g, 6, none⟩ = some (.string ⟨#[48]⟩) := cell_of_row _ _ _ _ _ _ hr
    have HB4 := Go.Lib.hid (HB3.out.trans (hbx.mono HB3.out.size))
    clear hr hbx HR HF HI0 HIT HH HX3 HB3 c0 c1 c2 c3 c4 c5 c6 c7 c8 c9 c10 c11
    generalize wc = W4 at *
    go_wp2_with fail
    refine wp_loop_rounds 8 ?_
    rw [rounds_succ]
    go_wp2
    rw [rounds_succ]
    go_wp2
    rw [rounds_succ]
    go_wp2
    rw [rounds_succ]
    go_wp2
    rw [rounds_succ]
    go_wp2
    rw [rounds_succ]
    go_wp2
    rw [rounds_succ]
    go_wp2
    rw [rounds_succ]
    go_wp2
    go_ret
    exact ⟨rfl, HB4.out⟩
end Go.Proofs.YtdemhabgaimnmaaGreatDoor
/- Two lists of numbers that are the same; what a core has; the document's example. -/
namespace Go.Proofs.YtdemhabgaimnmaaGreatDoor
open Go.RowKit
set_option maxRecDepth 100000
set_option linter.unusedVariables false

end Go.Proofs.YtdemhabgaimnmaaGreatDoor
/- The document's example: it holds. -/
namespace Go.Proofs.YtdemhabgaimnmaaGreatDoor
open Go.RowKit
set_option maxRecDepth 100000
set_option linter.unusedVariables false

theorem Shr.below_old {L L' : Lab} {w W W' : World} {n : Nat} (h : Shr L W L' W') (hb : Below n w W) (hn : n ≤ w.heap.size) (old : ∀ b, b < n → L b = 0) : Below n w W' :=
  ⟨h.os.trans hb.os, h.tape.trans hb.tape, h.output.trans hb.output, Nat.le_trans hb.size h.size, fun b hb' => (h.block b (by have := hb.size; omega) (.inl (old b hb'))).trans (hb.block b hb')⟩

def c0 : Cf := ⟨1, 1, 1, 3, 1, 0, 0, 0, 1, 1, 1, 0, 0⟩
end Go.Proofs.YtdemhabgaimnmaaGreatDoor
/- The document's configurations: which may be. -/
namespace Go.Proofs.YtdemhabgaimnmaaGreatDoor
open Go.RowKit
set_option maxRecDepth 100000
set_option linter.unusedVariables false

def leastN : List Nat := [1, 1, 1, 1, 1, 0, 0, 0, 1, 1, 1, 0, 0]
def mostN : List Nat := [64, 8, 6, 4096, 8192, 1073741823, 4294967295, 256, 1073741823, 1073741823, 1073741823, 1073741823, 31]
set_option maxHeartbeats 1000000 in
theorem ref_least (i : Nat) (hi : i < 13) (w : World) : Calls Tryz.prog 55 #[.int .i64 i] w fun e w' => e = .returned (.int .i64 (leastN.getD i 0 : Nat)) ∧ w' = w := by
  match i, hi with
  | 0, _ | 1, _ | 2, _ | 3, _ | 4, _ | 5, _ | 6, _ | 7, _ | 8, _ | 9, _ | 10, _ | 11, _ | 12, _ =>
    go_enter Tryz.func55, Tryz.ntmps55
    go_wp2
    go_ret
    exact ⟨rfl, rfl⟩
set_option maxHeartbeats 1000000 in
theorem ref_most (i : Nat) (hi : i < 13) (w : World) : Calls Tryz.prog 56 #[.int .i64 i] w fun e w' => e = .returned (.int .i64 (mostN.getD i 0 : Nat)) ∧ w' = w := by
  match i, hi with
  | 0, _ | 1, _ | 2, _ | 3, _ | 4, _ | 5, _ | 6, _ | 7, _ | 8, _ | 9, _ | 10, _ | 11, _ | 12, _ =>
    go_enter Tryz.func56, Tryz.ntmps56
    go_wp2
    go_ret
    exact ⟨rfl, rfl⟩
theorem below_drewN' {n : Nat} {w W : World} (hb : Below n w W) (q : Nat) : Below n w (W.drewN q) := ⟨hb.os, hb.tape, hb.output, hb.size, hb.block⟩
def okI (x : Nat → Int) : Prop := ∀ i, i < 13 → (leastN.getD i 0 : Int) ≤ x i ∧ x i ≤ (mostN.getD i 0 : Int)
instance (x : Nat → Int) : Decidable (okI x) := by unfold okI; infer_instance
set_option maxHeartbeats 2000000 in
theorem ref_Check (x : Nat → Int) (w : World) : Calls Tryz.prog 37 #[.agg #[.int .i64 (x 0), .int .i64 (x 1), .int .i64 (x 2), .int .i64 (x 3), .int .i64 (x 4), .int .i64 (x 5), .int .i64 (x 6), .int .i64 (x 7), .int .i64 (x 8), .int .i64 (x 9), .int .i64 (x 10), .int .i64 (x 11), .int .i64 (x 12)]] w fun e w' => ∃ a, e = .returned (.tuple #[.int .i64 a, .int .i64 (if okI x then 0 else 7)]) ∧ Below w.heap.size w w' := by
  have hc : ∀ k, k < 13 → (w.alloc (.cells #[.int .i64 (x 0), .int .i64 (x 1), .int .i64 (x 2), .int .i64 (x 3), .int .i64 (x 4), .int .i64 (x 5), .int .i64 (x 6), .int .i64 (x 7), .int .i64 (x 8), .int .i64 (x 9), .int .i64 (x 10), .int .i64 (x 11), .int .i64 (x 12)] 23)).cell? ⟨w.heap.size, k, none⟩ = some (.int .i64 (x k)) := by
    intro k hk
    rw [World.cell?_alloc_new]
    match k, hk with
    | 0, _ | 1, _ | 2, _ | 3, _ | 4, _ | 5, _ | 6, _ | 7, _ | 8, _ | 9, _ | 10, _ | 11, _ | 12, _ => rfl
  have hb : Below w.heap.size w (w.alloc (.cells #[.int .i64 (x 0), .int .i64 (x 1), .int .i64 (x 2), .int .i64 (x 3), .int .i64 (x 4), .int .i64 (x 5), .int .i64 (x 6), .int .i64 (x 7), .int .i64 (x 8), .int .i64 (x 9), .int .i64 (x 10), .int .i64 (x 11), .int .i64 (x 12)] 23)) := (Below.refl _ _).alloc (Nat.le_refl _) _
  have HC := Go.Lib.hid hc
  clear hc
  go_enter Tryz.func37, Tryz.ntmps37
  go_wp2
  generalize (w.alloc (.cells #[.int .i64 (x 0), .int .i64 (x 1), .int .i64 (x 2), .int .i64 (x 3), .int .i64 (x 4), .int .i64 (x 5), .int .i64 (x 6), .int .i64 (x 7), .int .i64 (x 8), .int .i64 (x 9), .int .i64 (x 10), .int .i64 (x 11), .int .i64 (x 12)] 23)) = W at *
  generalize hbx : w.heap.size = bx at *
  go_loopw [4] (fun i wr => ∃ k : Nat, k ≤ 13 ∧ i = .int .i64 k ∧ Below W.heap.size W wr ∧ ∀ j, j < k → (leastN.getD j 0 : Int) ≤ x j ∧ x j ≤ (mostN.getD j 0 : Int)) (fun i _ => 13 - (intOf i).toNat)
  case atStart => exact ⟨0, Nat.zero_le _, rfl, Below.refl _ _, fun j hj => absurd hj (by omega)⟩
  case round =>
    obtain ⟨k, hk, rfl, hbw, hall⟩ := hrel
    have hbT := hb.trans (hbw.mono (hbx ▸ hb.size))
    have HALL := Go.Lib.hid hall
    clear hall
    by_cases hlt : k < 13
    · have e1 := below_cell hbw (HC.out k hlt)
      have b1 : (0 : Int) ≤ (k : Int) := by omega
      have b2 : (k : Int) < 13 := by omega
      have HL := Go.Lib.hid (ref_least k hlt)
      have HM := Go.Lib.hid (ref_most k hlt)
      have HOK : Hid (okI x → (leastN.getD k 0 : Int) ≤ x k ∧ x k ≤ (mostN.getD k 0 : Int)) := fun h => h k hlt
      have HNX : Hid ((leastN.getD k 0 : Int) ≤ x k ∧ x k ≤ (mostN.getD k 0 : Int) → ∀ j, j < k + 1 → (leastN.getD j 0 : Int) ≤ x j ∧ x j ≤ (mostN.getD j 0 : Int)) := fun h j hj => by
        by_cases e : j = k
        · subst e; exact h
        · exact HALL.out j (by omega)
      generalize leastN.getD k 0 = lo at *
      generalize mostN.getD k 0 = hi at *
      generalize x k = v at *
      by_cases h1 : v < (lo : Int)
      · have hno : ¬ okI x := fun h => by have := HOK.out h; omega
        go_wp2
        go_quiet (first
          | (go_at_call 55; refine Calls.quiet_of_same (HL.out _))
          | (go_at_call 56; refine Calls.quiet_of_same (HM.out _)))
        go_wp2
        go_ret2
        exact ⟨⟨k, by first | rfl | (rw [if_neg hno]; rfl)⟩, below_drewN' hbT nq⟩
      · by_cases h2 : v > (hi : Int)
        · have hno : ¬ okI x := fun h => by have := HOK.out h; omega
          go_wp2
          go_quiet (first
            | (go_at_call 55; refine Calls.quiet_of_same (HL.out _))
            | (go_at_call 56; refine Calls.quiet_of_same (HM.out _)))
          go_wp2
          go_ret2
          exact ⟨⟨k, by first | rfl | (rw [if_neg hno]; rfl)⟩, below_drewN' hbT nq⟩
        · have hnx := Go.Lib.hid (HNX.out (by omega))
          go_wp2
          go_quiet (first
            | (go_at_call 55; refine Calls.quiet_of_same (HL.out _))
            | (go_at_call 56; refine Calls.quiet_of_same (HM.out _)))
          go_wp2
          exact ⟨⟨k + 1, by omega, by go_num, below_drewN' hbw nq, hnx.out⟩, by simp [intOf]; omega⟩
    · have s4 : ((k : Int) < 13) = False := by simp; omega
      have hyes : okI x := fun i hi => HALL.out i (by omega)
      go_wp2
      go_ret2
      exact ⟨⟨0, by first | rfl | (rw [if_pos hyes]; rfl)⟩, hbT⟩
end Go.Proofs.YtdemhabgaimnmaaGreatDoor
/- The document's configurations: the small ones; a core of one. -/
namespace Go.Proofs.YtdemhabgaimnmaaGreatDoor
open Go.RowKit
set_option maxRecDepth 100000
set_option linter.unusedVariables false

set_option maxHeartbeats 1000000 in
theorem ref_Right (x : Nat → Int) (w : World) : Calls Tryz.prog 16 #[.agg #[.int .i64 (x 0), .int .i64 (x 1), .int .i64 (x 2), .int .i64 (x 3), .int .i64 (x 4), .int .i64 (x 5), .int .i64 (x 6), .int .i64 (x 7), .int .i64 (x 8), .int .i64 (x 9), .int .i64 (x 10), .int .i64 (x 11), .int .i64 (x 12)]] w fun e w' => e = .returned (.bool (decide (okI x))) ∧ Below w.heap.size w w' := by
  have hb : Below w.heap.size w (w.alloc (.cells #[.int .i64 (x 0), .int .i64 (x 1), .int .i64 (x 2), .int .i64 (x 3), .int .i64 (x 4), .int .i64 (x 5), .int .i64 (x 6), .int .i64 (x 7), .int .i64 (x 8), .int .i64 (x 9), .int .i64 (x 10), .int .i64 (x 11), .int .i64 (x 12)] 23)) := (Below.refl _ _).alloc (Nat.le_refl _) _
  have HC := Go.Lib.hid (ref_Check x)
  by_cases h : okI x
  · simp only [h, if_true] at HC
    rw [decide_eq_true h]
    clear h
    go_enter Tryz.func16, Tryz.ntmps16
    go_wp2_with fail
    refine (HC.out _).mono ?_
    rintro e w' ⟨a, rfl, hb1⟩
    have hb2 := hb.trans (hb1.mono hb.size)
    clear hb1 hb
    go_wp2
    go_ret
    exact ⟨rfl, hb2⟩
  · simp only [h, if_false] at HC
    rw [decide_eq_false h]
    clear h
    go_enter Tryz.func16, Tryz.ntmps16
    go_wp2_with fail
    refine (HC.out _).mono ?_
    rintro e w' ⟨a, rfl, hb1⟩
    have hb2 := hb.trans (hb1.mono hb.size)
    clear hb1 hb
    go_wp2
    go_ret
    exact ⟨rfl, hb2⟩
end Go.Proofs.YtdemhabgaimnmaaGreatDoor
/- A core of a small configuration. -/
namespace Go.Proofs.YtdemhabgaimnmaaGreatDoor
open Go.RowKit
set_option maxRecDepth 100000
set_option linter.unusedVariables false

set_option maxHeartbeats 2000000 in
theorem law03_Of (x : Nat → Int) (w : World) : Calls Tryz.prog 12 #[.agg #[.int .i64 (x 0), .int .i64 (x 1), .int .i64 (x 2), .int .i64 (x 3), .int .i64 (x 4), .int .i64 (x 5), .int .i64 (x 6), .int .i64 (x 7), .int .i64 (x 8), .int .i64 (x 9), .int .i64 (x 10), .int .i64 (x 11), .int .i64 (x 12)]] w fun e w' => e = .returned (.agg #[.int .i64 (x 0), .int .i64 (x 1), .int .i64 (x 2), .int .i64 (x 3), .int .i64 (x 4), .int .i64 (x 5), .int .i64 (x 6), .int .i64 (x 7), .int .i64 (x 8), .int .i64 (x 9), .int .i64 (x 10), .int .i64 (x 11), .int .i64 (x 12)]) ∧ Below w.heap.size w w' := by
  have hb : Below w.heap.size w ((w.alloc (.cells #[.int .i64 (x 0), .int .i64 (x 1), .int .i64 (x 2), .int .i64 (x 3), .int .i64 (x 4), .int .i64 (x 5), .int .i64 (x 6), .int .i64 (x 7), .int .i64 (x 8), .int .i64 (x 9), .int .i64 (x 10), .int .i64 (x 11), .int .i64 (x 12)] 23)).alloc (.cells #[.int .i64 0, .int .i64 0, .int .i64 0, .int .i64 0, .int .i64 0, .int .i64 0, .int .i64 0, .int .i64 0, .int .i64 0, .int .i64 0, .int .i64 0, .int .i64 0, .int .i64 0] 29)) := ((Below.refl _ _).alloc (Nat.le_refl _) _).alloc (by simp) _
  have e0 : ((w.alloc (.cells #[.int .i64 (x 0), .int .i64 (x 1), .int .i64 (x 2), .int .i64 (x 3), .int .i64 (x 4), .int .i64 (x 5), .int .i64 (x 6), .int .i64 (x 7), .int .i64 (x 8), .int .i64 (x 9), .int .i64 (x 10), .int .i64 (x 11), .int .i64 (x 12)] 23)).alloc (.cells #[.int .i64 0, .int .i64 0, .int .i64 0, .int .i64 0, .int .i64 0, .int .i64 0, .int .i64 0, .int .i64 0, .int .i64 0, .int .i64 0, .int .i64 0, .int .i64 0, .int .i64 0] 29)).cell? ⟨w.heap.size, 0, none⟩ = some (.int .i64 (x 0)) := by go_simp
  have e1 : ((w.alloc (.cells #[.int .i64 (x 0), .int .i64 (x 1), .int .i64 (x 2), .int .i64 (x 3), .int .i64 (x 4), .int .i64 (x 5), .int .i64 (x 6), .int .i64 (x 7), .int .i64 (x 8), .int .i64 (x 9), .int .i64 (x 10), .int .i64 (x 11), .int .i64 (x 12)] 23)).alloc (.cells #[.int .i64 0, .int .i64 0, .int .i64 0, .int .i64 0, .int .i64 0, .int .i64 0, .int .i64 0, .int .i64 0, .int .i64 0, .int .i64 0, .int .i64 0, .int .i64 0, .int .i64 0] 29)).cell? ⟨w.heap.size, 1, none⟩ = some (.int .i64 (x 1)) := by go_simp
  have e2 : ((w.alloc (.cells #[.int .i64 (x 0), .int .i64 (x 1), .int .i64 (x 2), .int .i64 (x 3), .int .i64 (x 4), .int .i64 (x 5), .int .i64 (x 6), .int .i64 (x 7), .int .i64 (x 8), .int .i64 (x 9), .int .i64 (x 10), .int .i64 (x 11), .int .i64 (x 12)] 23)).alloc (.cells #[.int .i64 0, .int .i64 0, .int .i64 0, .int .i64 0, .int .i64 0, .int .i64 0, .int .i64 0, .int .i64 0, .int .i64 0, .int .i64 0, .int .i64 0, .int .i64 0, .int .i64 0] 29)).cell? ⟨w.heap.size, 2, none⟩ = some (.int .i64 (x 2)) := by go_simp
  have e3 : ((w.alloc (.cells #[.int .i64 (x 0), .int .i64 (x 1), .int .i64 (x 2), .int .i64 (x 3), .int .i64 (x 4), .int .i64 (x 5), .int .i64 (x 6), .int .i64 (x 7), .int .i64 (x 8), .int .i64 (x 9), .int .i64 (x 10), .int .i64 (x 11), .int .i64 (x 12)] 23)).alloc (.cells #[.int .i64 0, .int .i64 0, .int .i64 0, .int .i64 0, .int .i64 0, .int .i64 0, .int .i64 0, .int .i64 0, .int .i64 0, .int .i64 0, .int .i64 0, .int .i64 0, .int .i64 0] 29)).cell? ⟨w.heap.size, 3, none⟩ = some (.int .i64 (x 3)) := by go_simp
  have e4 : ((w.alloc (.cells #[.int .i64 (x 0), .int .i64 (x 1), .int .i64 (x 2), .int .i64 (x 3), .int .i64 (x 4), .int .i64 (x 5), .int .i64 (x 6), .int .i64 (x 7), .int .i64 (x 8), .int .i64 (x 9), .int .i64 (x 10), .int .i64 (x 11), .int .i64 (x 12)] 23)).alloc (.cells #[.int .i64 0, .int .i64 0, .int .i64 0, .int .i64 0, .int .i64 0, .int .i64 0, .int .i64 0, .int .i64 0, .int .i64 0, .int .i64 0, .int .i64 0, .int .i64 0, .int .i64 0] 29)).cell? ⟨w.heap.size, 4, none⟩ = some (.int .i64 (x 4)) := by go_simp
  have e5 : ((w.alloc (.cells #[.int .i64 (x 0), .int .i64 (x 1), .int .i64 (x 2), .int .i64 (x 3), .int .i64 (x 4), .int .i64 (x 5), .int .i64 (x 6), .int .i64 (x 7), .int .i64 (x 8), .int .i64 (x 9), .int .i64 (x 10), .int .i64 (x 11), .int .i64 (x 12)] 23)).alloc (.cells #[.int .i64 0, .int .i64 0, .int .i64 0, .int .i64 0, .int .i64 0, .int .i64 0, .int .i64 0, .int .i64 0, .int .i64 0, .int .i64 0, .int .i64 0, .int .i64 0, .int .i64 0] 29)).cell? ⟨w.heap.size, 5, none⟩ = some (.int .i64 (x 5)) := by go_simp
  have e6 : ((w.alloc (.cells #[.int .i64 (x 0), .int .i64 (x 1), .int .i64 (x 2), .int .i64 (x 3), .int .i64 (x 4), .int .i64 (x 5), .int .i64 (x 6), .int .i64 (x 7), .int .i64 (x 8), .int .i64 (x 9), .int .i64 (x 10), .int .i64 (x 11), .int .i64 (x 12)] 23)).alloc (.cells #[.int .i64 0, .int .i64 0, .int .i64 0, .int .i64 0, .int .i64 0, .int .i64 0, .int .i64 0, .int .i64 0, .int .i64 0, .int .i64 0, .int .i64 0, .int .i64 0, .int .i64 0] 29)).cell? ⟨w.heap.size, 6, none⟩ = some (.int .i64 (x 6)) := by go_simp
  have e7 : ((w.alloc (.cells #[.int .i64 (x 0), .int .i64 (x 1), .int .i64 (x 2), .int .i64 (x 3), .int .i64 (x 4), .int .i64 (x 5), .int .i64 (x 6), .int .i64 (x 7), .int .i64 (x 8), .int .i64 (x 9), .int .i64 (x 10), .int .i64 (x 11), .int .i64 (x 12)] 23)).alloc (.cells #[.int .i64 0, .int .i64 0, .int .i64 0, .int .i64 0, .int .i64 0, .int .i64 0, .int .i64 0, .int .i64 0, .int .i64 0, .int .i64 0, .int .i64 0, .int .i64 0, .int .i64 0] 29)).cell? ⟨w.heap.size, 7, none⟩ = some (.int .i64 (x 7)) := by go_simp
  have e8 : ((w.alloc (.cells #[.int .i64 (x 0), .int .i64 (x 1), .int .i64 (x 2), .int .i64 (x 3), .int .i64 (x 4), .int .i64 (x 5), .int .i64 (x 6), .int .i64 (x 7), .int .i64 (x 8), .int .i64 (x 9), .int .i64 (x 10), .int .i64 (x 11), .int .i64 (x 12)] 23)).alloc (.cells #[.int .i64 0, .int .i64 0, .int .i64 0, .int .i64 0, .int .i64 0, .int .i64 0, .int .i64 0, .int .i64 0, .int .i64 0, .int .i64 0, .int .i64 0, .int .i64 0, .int .i64 0] 29)).cell? ⟨w.heap.size, 8, none⟩ = some (.int .i64 (x 8)) := by go_simp
  have e9 : ((w.alloc (.cells #[.int .i64 (x 0), .int .i64 (x 1), .int .i64 (x 2), .int .i64 (x 3), .int .i64 (x 4), .int .i64 (x 5), .int .i64 (x 6), .int .i64 (x 7), .int .i64 (x 8), .int .i64 (x 9), .int .i64 (x 10), .int .i64 (x 11), .int .i64 (x 12)] 23)).alloc (.cells #[.int .i64 0, .int .i64 0, .int .i64 0, .int .i64 0, .int .i64 0, .int .i64 0, .int .i64 0, .int .i64 0, .int .i64 0, .int .i64 0, .int .i64 0, .int .i64 0, .int .i64 0] 29)).cell? ⟨w.heap.size, 9, none⟩ = some (.int .i64 (x 9)) := by go_simp
  have e10 : ((w.alloc (.cells #[.int .i64 (x 0), .int .i64 (x 1), .int .i64 (x 2), .int .i64 (x 3), .int .i64 (x 4), .int .i64 (x 5), .int .i64 (x 6), .int .i64 (x 7), .int .i64 (x 8), .int .i64 (x 9), .int .i64 (x 10), .int .i64 (x 11), .int .i64 (x 12)] 23)).alloc (.cells #[.int .i64 0, .int .i64 0, .int .i64 0, .int .i64 0, .int .i64 0, .int .i64 0, .int .i64 0, .int .i64 0, .int .i64 0, .int .i64 0, .int .i64 0, .int .i64 0, .int .i64 0] 29)).cell? ⟨w.heap.size, 10, none⟩ = some (.int .i64 (x 10)) := by go_simp
  have e11 : ((w.alloc (.cells #[.int .i64 (x 0), .int .i64 (x 1), .int .i64 (x 2), .int .i64 (x 3), .int .i64 (x 4), .int .i64 (x 5), .int .i64 (x 6), .int .i64 (x 7), .int .i64 (x 8), .int .i64 (x 9), .int .i64 (x 10), .int .i64 (x 11), .int .i64 (x 12)] 23)).alloc (.cells #[.int .i64 0, .int .i64 0, .int .i64 0, .int .i64 0, .int .i64 0, .int .i64 0, .int .i64 0, .int .i64 0, .int .i64 0, .int .i64 0, .int .i64 0, .int .i64 0, .int .i64 0] 29)).cell? ⟨w.heap.size, 11, none⟩ = some (.int .i64 (x 11)) := by go_simp
  have e12 : ((w.alloc (.cells #[.int .i64 (x 0), .int .i64 (x 1), .int .i64 (x 2), .int .i64 (x 3), .int .i64 (x 4), .int .i64 (x 5), .int .i64 (x 6), .int .i64 (x 7), .int .i64 (x 8), .int .i64 (x 9), .int .i64 (x 10), .int .i64 (x 11), .int .i64 (x 12)] 23)).alloc (.cells #[.int .i64 0, .int .i64 0, .int .i64 0, .int .i64 0, .int .i64 0, .int .i64 0, .int .i64 0, .int .i64 0, .int .i64 0, .int .i64 0, .int .i64 0, .int .i64 0, .int .i64 0] 29)).cell? ⟨w.heap.size, 12, none⟩ = some (.int .i64 (x 12)) := by go_simp
  go_enter Tryz.func12, Tryz.ntmps12
  go_wp2_with fail
  exact bodyPost_ret (v := .agg #[.int .i64 (x 0), .int .i64 (x 1), .int .i64 (x 2), .int .i64 (x 3), .int .i64 (x 4), .int .i64 (x 5), .int .i64 (x 6), .int .i64 (x 7), .int .i64 (x 8), .int .i64 (x 9), .int .i64 (x 10), .int .i64 (x 11), .int .i64 (x 12)]) (by simp [results, Tryz.results12, go_sem]) rfl ⟨rfl, ((Below.refl _ _).alloc (Nat.le_refl _) _).alloc (by simp) _⟩
def cfOf (x : Nat → Int) : Cf := ⟨(x 0).toNat, (x 1).toNat, (x 2).toNat, (x 3).toNat, (x 4).toNat, (x 5).toNat, (x 6).toNat, (x 7).toNat, (x 8).toNat, (x 9).toNat, (x 10).toNat, (x 11).toNat, (x 12).toNat⟩
theorem cfOf_ok {x : Nat → Int} (h : okI x) : (cfOf x).Ok := by
  have h0 := h 0 (by decide)
  have h1 := h 1 (by decide)
  have h2 := h 2 (by decide)
  have h3 := h 3 (by decide)
  have h4 := h 4 (by decide)
  have h5 := h 5 (by decide)
  have h6 := h 6 (by decide)
  have h7 := h 7 (by decide)
  have h8 := h 8 (by decide)
  have h9 := h 9 (by decide)
  have h10 := h 10 (by decide)
  have h11 := h 11 (by decide)
  have h12 := h 12 (by decide)
  simp [leastN, mostN] at h0 h1 h2 h3 h4 h5 h6 h7 h8 h9 h10 h11 h12
  constructor <;> simp only [cfOf] <;> omega
theorem cfOf_vals {x : Nat → Int} (h : okI x) : (cfOf x).vals = #[.int .i64 (x 0), .int .i64 (x 1), .int .i64 (x 2), .int .i64 (x 3), .int .i64 (x 4), .int .i64 (x 5), .int .i64 (x 6), .int .i64 (x 7), .int .i64 (x 8), .int .i64 (x 9), .int .i64 (x 10), .int .i64 (x 11), .int .i64 (x 12)] := by
  have h0 := h 0 (by decide)
  have h1 := h 1 (by decide)
  have h2 := h 2 (by decide)
  have h3 := h 3 (by decide)
  have h4 := h 4 (by decide)
  have h5 := h 5 (by decide)
  have h6 := h 6 (by decide)
  have h7 := h 7 (by decide)
  have h8 := h 8 (by decide)
  have h9 := h 9 (by decide)
  have h10 := h 10 (by decide)
  have h11 := h 11 (by decide)
  have h12 := h 12 (by decide)
  simp [leastN, mostN] at h0 h1 h2 h3 h4 h5 h6 h7 h8 h9 h10 h11 h12
  unfold Cf.vals cfOf
  have g0 : (((x 0).toNat : Nat) : Int) = x 0 := by omega
  have g1 : (((x 1).toNat : Nat) : Int) = x 1 := by omega
  have g2 : (((x 2).toNat : Nat) : Int) = x 2 := by omega
  have g3 : (((x 3).toNat : Nat) : Int) = x 3 := by omega
  have g4 : (((x 4).toNat : Nat) : Int) = x 4 := by omega
  have g5 : (((x 5).toNat : Nat) : Int) = x 5 := by omega
  have g6 : (((x 6).toNat : Nat) : Int) = x 6 := by omega
  have g7 : (((x 7).toNat : Nat) : Int) = x 7 := by omega
  have g8 : (((x 8).toNat : Nat) : Int) = x 8 := by omega
  have g9 : (((x 9).toNat : Nat) : Int) = x 9 := by omega
  have g10 : (((x 10).toNat : Nat) : Int) = x 10 := by omega
  have g11 : (((x 11).toNat : Nat) : Int) = x 11 := by omega
  have g12 : (((x 12).toNat : Nat) : Int) = x 12 := by omega
  simp only [g0, g1, g2, g3, g4, g5, g6, g7, g8, g9, g10, g11, g12]
end Go.Proofs.YtdemhabgaimnmaaGreatDoor
