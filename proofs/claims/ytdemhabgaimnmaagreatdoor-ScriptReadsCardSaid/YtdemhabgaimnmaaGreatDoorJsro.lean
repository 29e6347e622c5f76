/- What any bytes say, behind whatever configuration. -/
import Derived.Test.YtdemhabgaimnmaaGreatDoorJsrn
import Derived.ProofKit
import Derived.OpenShut
import Derived.ChangeSlices
namespace Go.Proofs.YtdemhabgaimnmaaGreatDoor
open Go.RowKit
set_option maxRecDepth 100000
set_option linter.unusedVariables false

theorem below_range {w w' : World} (hb : Below w.heap.size w w') {g o : Nat} {cs : List Value} (h : w.rangeAt g o cs) : w'.rangeAt g o cs := fun j u hj => below_cell hb (h j u hj)
/-- Entries in a slice whose block is there. -/
def KEs (w : World) (v : Value) (es : List Ent) : Prop := KE (fun b => b < w.heap.size) w v es
theorem KEs.below {w w' : World} {v : Value} {es : List Ent} (h : KEs w v es) (hb : Below w.heap.size w w') : KEs w' v es := KRows.mono (KE.keep h (fun b hb' => hb.block b hb')) (fun b hb' => Nat.lt_of_lt_of_le hb' hb.size)
theorem KEs.of {w : World} {n : Nat} {v : Value} {es : List Ent} (h : KE (fun b => n ≤ b ∧ b < w.heap.size) w v es) : KEs w v es := KRows.mono h (fun b hb => hb.2)
theorem KBb.go {w w' : World} {v : Value} {l : List Nat} (h : KBb w.heap.size w v l) (hb : Below w.heap.size w w') : KBb w'.heap.size w' v l := KRows.mono (KBb.below h (Nat.le_refl _) hb) (fun b hb' => Nat.lt_of_lt_of_le hb' hb.size)
theorem KBb.own {w : World} {base : Nat} {t : TypeId} {v : Value} {bs : List Nat} (h : w.ownsRow base t 1 v bs.length (bs.map fun (x : Nat) => Value.int .u8 (x : Int))) : KBb w.heap.size w v bs := KRows.mono (KB.own h) (fun b hb => hb.2)
theorem got_s {B : Nat} {v : Value} {l : List Nat} {w : World} (h : KBb B w v l) (hB : B ≤ w.heap.size) (hb : ∀ z ∈ l, z < 256) (hm : l.length ≤ 9000000000000000) :
    Calls Tryz.prog 10 #[v] w (DecGot 56 (decX l) (decK l) (decL l) w) := (script_Decode h hB hb (by omega)).mono fun _ _ h => h.got
theorem got_r {B : Nat} {v : Value} {l : List Nat} {w : World} (h : KBb B w v l) (hB : B ≤ w.heap.size) (hb : ∀ z ∈ l, z < 256) (hm : l.length ≤ 9000000000000000) :
    Calls Tryz.prog 11 #[v] w (DecGot 53 (decX l) (decK l) (decL l) w) := (ref22_Decode h hB hb hm).mono fun _ _ h => h.got

set_option maxHeartbeats 8000000 in
theorem law22_ScriptReads (x : Nat → Int) (zs : List Nat) (v : Value) (bw : Bool) (w : World) (h : KBb w.heap.size w v zs) (hz : ∀ z ∈ zs, z < 256) :
    Calls Tryz.prog 3 #[.agg #[.int .i64 (x 0), .int .i64 (x 1), .int .i64 (x 2), .int .i64 (x 3), .int .i64 (x 4), .int .i64 (x 5), .int .i64 (x 6), .int .i64 (x 7), .int .i64 (x 8), .int .i64 (x 9), .int .i64 (x 10), .int .i64 (x 11), .int .i64 (x 12)], v, .bool bw] w fun e w' => e = .returned (.bool true) ∧ Below w.heap.size w w' := by
  obtain ⟨p0, q0, rfl, _⟩ := id (KB.form h)
  by_cases hl : zs.length ≤ 3000
  · have hl1 : ((zs.length : Int) > 3000) = False := by simp; omega
    have hl2 : ((3000 : Int) < (zs.length : Int)) = False := by simp; omega
    have hb0 : Below w.heap.size w (w.alloc (.cells #[.int .i64 (x 0), .int .i64 (x 1), .int .i64 (x 2), .int .i64 (x 3), .int .i64 (x 4), .int .i64 (x 5), .int .i64 (x 6), .int .i64 (x 7), .int .i64 (x 8), .int .i64 (x 9), .int .i64 (x 10), .int .i64 (x 11), .int .i64 (x 12)] 23)) := (Below.refl _ _).alloc (Nat.le_refl _) _
    have HB0 := Go.Lib.hid hb0
    have HX0 := Go.Lib.hid (heap_alloc_new w (.cells #[.int .i64 (x 0), .int .i64 (x 1), .int .i64 (x 2), .int .i64 (x 3), .int .i64 (x 4), .int .i64 (x 5), .int .i64 (x 6), .int .i64 (x 7), .int .i64 (x 8), .int .i64 (x 9), .int .i64 (x 10), .int .i64 (x 11), .int .i64 (x 12)] 23))
    have HK := Go.Lib.hid h
    have HZ := Go.Lib.hid hz
    have HL := Go.Lib.hid hl
    clear h hz hl hb0
    by_cases hok : okI x ∧ bw = true
    · obtain ⟨hok, rfl⟩ := hok
      have HEN := Go.Lib.hid (fun W => ref22_Encode_nil x hok W)
      clear hok
      go_enter Tryz.func3, Tryz.ntmps3
      go_wp2_with fail
      generalize (w.alloc (.cells #[.int .i64 (x 0), .int .i64 (x 1), .int .i64 (x 2), .int .i64 (x 3), .int .i64 (x 4), .int .i64 (x 5), .int .i64 (x 6), .int .i64 (x 7), .int .i64 (x 8), .int .i64 (x 9), .int .i64 (x 10), .int .i64 (x 11), .int .i64 (x 12)] 23)) = W0 at *
      refine (law22_speaks _).mono ?_
      rintro e w1 ⟨rfl, hb1⟩
      have HB1 := Go.Lib.hid (HB0.out.trans (hb1.mono HB0.out.size))
      have hrow := row_below hb1 HX0.out
      have x0 : w1.cell? ⟨w.heap.size, 0, none⟩ = some (.int .i64 (x 0)) := cell_of_row _ _ _ _ _ _ hrow
      have x1 : w1.cell? ⟨w.heap.size, 1, none⟩ = some (.int .i64 (x 1)) := cell_of_row _ _ _ _ _ _ hrow
      have x2 : w1.cell? ⟨w.heap.size, 2, none⟩ = some (.int .i64 (x 2)) := cell_of_row _ _ _ _ _ _ hrow
      have x3 : w1.cell? ⟨w.heap.size, 3, none⟩ = some (.int .i64 (x 3)) := cell_of_row _ _ _ _ _ _ hrow
      have x4 : w1.cell? ⟨w.heap.size, 4, none⟩ = some (.int .i64 (x 4)) := cell_of_row _ _ _ _ _ _ hrow
      have x5 : w1.cell? ⟨w.heap.size, 5, none⟩ = some (.int .i64 (x 5)) := cell_of_row _ _ _ _ _ _ hrow
      have x6 : w1.cell? ⟨w.heap.size, 6, none⟩ = some (.int .i64 (x 6)) := cell_of_row _ _ _ _ _ _ hrow
      have x7 : w1.cell? ⟨w.heap.size, 7, none⟩ = some (.int .i64 (x 7)) := cell_of_row _ _ _ _ _ _ hrow
      have x8 : w1.cell? ⟨w.heap.size, 8, none⟩ = some (.int .i64 (x 8)) := cell_of_row _ _ _ _ _ _ hrow
      have x9 : w1.cell? ⟨w.heap.size, 9, none⟩ = some (.int .i64 (x 9)) := cell_of_row _ _ _ _ _ _ hrow
      have x10 : w1.cell? ⟨w.heap.size, 10, none⟩ = some (.int .i64 (x 10)) := cell_of_row _ _ _ _ _ _ hrow
      have x11 : w1.cell? ⟨w.heap.size, 11, none⟩ = some (.int .i64 (x 11)) := cell_of_row _ _ _ _ _ _ hrow
      have x12 : w1.cell? ⟨w.heap.size, 12, none⟩ = some (.int .i64 (x 12)) := cell_of_row _ _ _ _ _ _ hrow
      clear hb1 HX0 HB0 hrow
      go_wp2_with fail
      clear x0 x1 x2 x3 x4 x5 x6 x7 x8 x9 x10 x11 x12
      refine (HEN.out _).mono ?_
      rintro e w2 ⟨v2, rfl, ho2, hb2⟩
      obtain ⟨a2, q2, rfl⟩ := own_form ho2
      have HO2 := Go.Lib.hid (own_mono ho2 HB1.out.size)
      have HB2 := Go.Lib.hid (HB1.out.trans (hb2.mono HB1.out.size))
      have HK2 := Go.Lib.hid (HK.out.go HB2.out)
      have HLN := Go.Lib.hid (headJ_len x 13)
      have HLT := Go.Lib.hid (headJ_lt x 13)
      generalize headJ x 13 = hd at *
      clear ho2 hb2 HB1 HEN
      go_wp2_with (first
        | (at_builtin; refine wpList_append_kb rfl _ _ rfl w.heap.size _ hd rfl HO2.out _ (fun b => b < w2.heap.size) zs rfl HK2.out (by rw [HLN.out]; have := HL.out; omega) HB2.out.size ?_; intro v4 w4 hown4 hto4; have HK4 : Hid (KBb w4.heap.size w4 v4 (hd ++ zs)) := Go.Lib.hid (KBb.own hown4); have HB4 := Go.Lib.hid (HB2.out.trans hto4.below); clear hown4 hto4 HO2 HB2 HK2)
        | fail)
      obtain ⟨Y, hY⟩ : ∃ Y, Y = decX (hd ++ zs) := ⟨_, rfl⟩
      obtain ⟨k, hk⟩ : ∃ k, k = decK (hd ++ zs) := ⟨_, rfl⟩
      obtain ⟨es, hes⟩ : ∃ es, es = decL (hd ++ zs) := ⟨_, rfl⟩
      have HLE : Hid (es.length ≤ 1000000) := Go.Lib.hid (by rw [hes]; have := decL_le (hd ++ zs); omega)
      have HS : Hid (∀ W, Below w4.heap.size w4 W → Calls Tryz.prog 10 #[v4] W (DecGot 56 Y k es W)) := Go.Lib.hid (fun W hb => by rw [hY, hk, hes]; exact got_s (HK4.out.go hb) (Nat.le_refl _) (fun z hz => by rcases List.mem_append.1 hz with q | q; exact HLT.out z q; exact HZ.out z q) (by rw [List.length_append, HLN.out]; have := HL.out; omega))
      have HR : Hid (∀ W, Below w4.heap.size w4 W → Calls Tryz.prog 11 #[v4] W (DecGot 53 Y k es W)) := Go.Lib.hid (fun W hb => by rw [hY, hk, hes]; exact got_r (HK4.out.go hb) (Nat.le_refl _) (fun z hz => by rcases List.mem_append.1 hz with q | q; exact HLT.out z q; exact HZ.out z q) (by rw [List.length_append, HLN.out]; have := HL.out; omega))
      have HB3 := Go.Lib.hid (Below.refl w4.heap.size w4)
      have HB9 := HB4
      clear hY hk hes HK4 HB4
      go_wp2_with fail
      refine (HS.out _ HB3.out).mono ?_
      rintro e w5 ⟨v5, rfl, hke5, hb5⟩
      have hb6 : Below w5.heap.size w5 (w5.alloc (.cells #[.int .i64 (Y 0), .int .i64 (Y 1), .int .i64 (Y 2), .int .i64 (Y 3), .int .i64 (Y 4), .int .i64 (Y 5), .int .i64 (Y 6), .int .i64 (Y 7), .int .i64 (Y 8), .int .i64 (Y 9), .int .i64 (Y 10), .int .i64 (Y 11), .int .i64 (Y 12)] 29)) := (Below.refl _ _).alloc (Nat.le_refl _) _
      have HK6 := Go.Lib.hid ((KEs.of hke5).below hb6)
      have HQ6 := Go.Lib.hid (heap_alloc_new w5 (.cells #[.int .i64 (Y 0), .int .i64 (Y 1), .int .i64 (Y 2), .int .i64 (Y 3), .int .i64 (Y 4), .int .i64 (Y 5), .int .i64 (Y 6), .int .i64 (Y 7), .int .i64 (Y 8), .int .i64 (Y 9), .int .i64 (Y 10), .int .i64 (Y 11), .int .i64 (Y 12)] 29))
      have HB6 := Go.Lib.hid ((HB3.out.trans (hb5.mono HB3.out.size)).trans (hb6.mono (HB3.out.trans (hb5.mono HB3.out.size)).size))
      clear hke5 hb5 hb6 HB3
      go_wp2_with fail
      generalize (w5.alloc (.cells #[.int .i64 (Y 0), .int .i64 (Y 1), .int .i64 (Y 2), .int .i64 (Y 3), .int .i64 (Y 4), .int .i64 (Y 5), .int .i64 (Y 6), .int .i64 (Y 7), .int .i64 (Y 8), .int .i64 (Y 9), .int .i64 (Y 10), .int .i64 (Y 11), .int .i64 (Y 12)] 29)) = W6 at *
      generalize w5.heap.size = g5 at *
      refine (HR.out _ HB6.out).mono ?_
      rintro e w7 ⟨v7, rfl, hke7, hb7⟩
      have hb8 : Below w7.heap.size w7 (w7.alloc (.cells #[.int .i64 (Y 0), .int .i64 (Y 1), .int .i64 (Y 2), .int .i64 (Y 3), .int .i64 (Y 4), .int .i64 (Y 5), .int .i64 (Y 6), .int .i64 (Y 7), .int .i64 (Y 8), .int .i64 (Y 9), .int .i64 (Y 10), .int .i64 (Y 11), .int .i64 (Y 12)] 23)) := (Below.refl _ _).alloc (Nat.le_refl _) _
      have HK5 := Go.Lib.hid ((HK6.out.below hb7).below hb8)
      have HK7 := Go.Lib.hid ((KEs.of hke7).below hb8)
      have HQ5 := row_below hb8 (row_below hb7 HQ6.out)
      have HQ7 := heap_alloc_new w7 (.cells #[.int .i64 (Y 0), .int .i64 (Y 1), .int .i64 (Y 2), .int .i64 (Y 3), .int .i64 (Y 4), .int .i64 (Y 5), .int .i64 (Y 6), .int .i64 (Y 7), .int .i64 (Y 8), .int .i64 (Y 9), .int .i64 (Y 10), .int .i64 (Y 11), .int .i64 (Y 12)] 23)
      have HB8 := Go.Lib.hid ((HB6.out.trans (hb7.mono HB6.out.size)).trans (hb8.mono (HB6.out.trans (hb7.mono HB6.out.size)).size))
      clear hke7 hb7 hb8 HB6 HK6 HQ6 HS HR
      go_wp2_with fail
      generalize (w7.alloc (.cells #[.int .i64 (Y 0), .int .i64 (Y 1), .int .i64 (Y 2), .int .i64 (Y 3), .int .i64 (Y 4), .int .i64 (Y 5), .int .i64 (Y 6), .int .i64 (Y 7), .int .i64 (Y 8), .int .i64 (Y 9), .int .i64 (Y 10), .int .i64 (Y 11), .int .i64 (Y 12)] 23)) = W8 at *
      generalize w7.heap.size = g7 at *
      have q0 : W8.cell? ⟨g5, 0, none⟩ = some (.int .i64 (Y 0)) := cell_of_row _ _ _ _ _ _ HQ5
      have q1 : W8.cell? ⟨g5, 1, none⟩ = some (.int .i64 (Y 1)) := cell_of_row _ _ _ _ _ _ HQ5
      have q2 : W8.cell? ⟨g5, 2, none⟩ = some (.int .i64 (Y 2)) := cell_of_row _ _ _ _ _ _ HQ5
      have q3 : W8.cell? ⟨g5, 3, none⟩ = some (.int .i64 (Y 3)) := cell_of_row _ _ _ _ _ _ HQ5
      have q4 : W8.cell? ⟨g5, 4, none⟩ = some (.int .i64 (Y 4)) := cell_of_row _ _ _ _ _ _ HQ5
      have q5 : W8.cell? ⟨g5, 5, none⟩ = some (.int .i64 (Y 5)) := cell_of_row _ _ _ _ _ _ HQ5
      have q6 : W8.cell? ⟨g5, 6, none⟩ = some (.int .i64 (Y 6)) := cell_of_row _ _ _ _ _ _ HQ5
      have q7 : W8.cell? ⟨g5, 7, none⟩ = some (.int .i64 (Y 7)) := cell_of_row _ _ _ _ _ _ HQ5
      have q8 : W8.cell? ⟨g5, 8, none⟩ = some (.int .i64 (Y 8)) := cell_of_row _ _ _ _ _ _ HQ5
      have q9 : W8.cell? ⟨g5, 9, none⟩ = some (.int .i64 (Y 9)) := cell_of_row _ _ _ _ _ _ HQ5
      have q10 : W8.cell? ⟨g5, 10, none⟩ = some (.int .i64 (Y 10)) := cell_of_row _ _ _ _ _ _ HQ5
      have q11 : W8.cell? ⟨g5, 11, none⟩ = some (.int .i64 (Y 11)) := cell_of_row _ _ _ _ _ _ HQ5
      have q12 : W8.cell? ⟨g5, 12, none⟩ = some (.int .i64 (Y 12)) := cell_of_row _ _ _ _ _ _ HQ5
      have rg : W8.rangeAt g7 0 [.int .i64 (Y 0), .int .i64 (Y 1), .int .i64 (Y 2), .int .i64 (Y 3), .int .i64 (Y 4), .int .i64 (Y 5), .int .i64 (Y 6), .int .i64 (Y 7), .int .i64 (Y 8), .int .i64 (Y 9), .int .i64 (Y 10), .int .i64 (Y 11), .int .i64 (Y 12)] := fun j u hj => by rw [Nat.zero_add, cell_of_row _ _ _ _ _ _ HQ7]; simpa using hj
      have hu23 := Tryz.underlying23
      have hi23 : (Tryz.prog.info? 23).map (·.size) = some ([.int .i64 (Y 0), .int .i64 (Y 1), .int .i64 (Y 2), .int .i64 (Y 3), .int .i64 (Y 4), .int .i64 (Y 5), .int .i64 (Y 6), .int .i64 (Y 7), .int .i64 (Y 8), .int .i64 (Y 9), .int .i64 (Y 10), .int .i64 (Y 11), .int .i64 (Y 12)] : List Value).length := by kernel_rfl
      have hl23 : ([.int .i64 (Y 0), .int .i64 (Y 1), .int .i64 (Y 2), .int .i64 (Y 3), .int .i64 (Y 4), .int .i64 (Y 5), .int .i64 (Y 6), .int .i64 (Y 7), .int .i64 (Y 8), .int .i64 (Y 9), .int .i64 (Y 10), .int .i64 (Y 11), .int .i64 (Y 12)] : List Value).length = 13 := rfl
      have ho23 : ∀ u ∈ ([.int .i64 (Y 0), .int .i64 (Y 1), .int .i64 (Y 2), .int .i64 (Y 3), .int .i64 (Y 4), .int .i64 (Y 5), .int .i64 (Y 6), .int .i64 (Y 7), .int .i64 (Y 8), .int .i64 (Y 9), .int .i64 (Y 10), .int .i64 (Y 11), .int .i64 (Y 12)] : List Value), u.oneCell' = true := by intro u hu; simp only [List.mem_cons, List.not_mem_nil, or_false] at hu; rcases hu with rfl | rfl | rfl | rfl | rfl | rfl | rfl | rfl | rfl | rfl | rfl | rfl | rfl <;> rfl
      clear HQ5 HQ7
      replace HK5 := Go.Lib.hid (HK5.out.below (Below.refl _ _).drew)
      replace HK7 := Go.Lib.hid (HK7.out.below (Below.refl _ _).drew)
      replace HB8 := Go.Lib.hid HB8.out.drew
      go_region_held3 (fun w' => w'.cell? ⟨g5, 0, none⟩ = some (.int .i64 (Y 0)) ∧ w'.cell? ⟨g5, 1, none⟩ = some (.int .i64 (Y 1)) ∧ w'.cell? ⟨g5, 2, none⟩ = some (.int .i64 (Y 2)) ∧ w'.cell? ⟨g5, 3, none⟩ = some (.int .i64 (Y 3)) ∧ w'.cell? ⟨g5, 4, none⟩ = some (.int .i64 (Y 4)) ∧ w'.cell? ⟨g5, 5, none⟩ = some (.int .i64 (Y 5)) ∧ w'.cell? ⟨g5, 6, none⟩ = some (.int .i64 (Y 6)) ∧ w'.cell? ⟨g5, 7, none⟩ = some (.int .i64 (Y 7)) ∧ w'.cell? ⟨g5, 8, none⟩ = some (.int .i64 (Y 8)) ∧ w'.cell? ⟨g5, 9, none⟩ = some (.int .i64 (Y 9)) ∧ w'.cell? ⟨g5, 10, none⟩ = some (.int .i64 (Y 10)) ∧ w'.cell? ⟨g5, 11, none⟩ = some (.int .i64 (Y 11)) ∧ w'.cell? ⟨g5, 12, none⟩ = some (.int .i64 (Y 12)) ∧ w'.rangeAt g7 0 [.int .i64 (Y 0), .int .i64 (Y 1), .int .i64 (Y 2), .int .i64 (Y 3), .int .i64 (Y 4), .int .i64 (Y 5), .int .i64 (Y 6), .int .i64 (Y 7), .int .i64 (Y 8), .int .i64 (Y 9), .int .i64 (Y 10), .int .i64 (Y 11), .int .i64 (Y 12)])
        (first | exact ⟨q0, q1, q2, q3, q4, q5, q6, q7, q8, q9, q10, q11, q12, rg⟩)
        (first
          | (go_at_call 12; refine (law03_Of Y _).mono ?_; rintro e wa ⟨rfl, hb⟩; have q0 := below_cell hb q0; have q1 := below_cell hb q1; have q2 := below_cell hb q2; have q3 := below_cell hb q3; have q4 := below_cell hb q4; have q5 := below_cell hb q5; have q6 := below_cell hb q6; have q7 := below_cell hb q7; have q8 := below_cell hb q8; have q9 := below_cell hb q9; have q10 := below_cell hb q10; have q11 := below_cell hb q11; have q12 := below_cell hb q12; have rg := below_range hb rg; have HK5 := Go.Lib.hid (HK5.out.below hb); have HK7 := Go.Lib.hid (HK7.out.below hb); have HB8 := Go.Lib.hid (HB8.out.trans (hb.mono HB8.out.size)))
          | (go_at_call 14; refine (law22_tos HK5.out (fun b hb => hb) HLE.out).mono ?_; rintro e wb ⟨v8, rfl, ho, hb⟩; have HK8 := Go.Lib.hid (KEs.of (KE.own ho)); have q0 := below_cell hb q0; have q1 := below_cell hb q1; have q2 := below_cell hb q2; have q3 := below_cell hb q3; have q4 := below_cell hb q4; have q5 := below_cell hb q5; have q6 := below_cell hb q6; have q7 := below_cell hb q7; have q8 := below_cell hb q8; have q9 := below_cell hb q9; have q10 := below_cell hb q10; have q11 := below_cell hb q11; have q12 := below_cell hb q12; have rg := below_range hb rg; have HK7 := Go.Lib.hid (HK7.out.below hb); have HB8 := Go.Lib.hid (HB8.out.trans (hb.mono HB8.out.size)))
          | (go_at_call 13; refine (ref22_Same HK8.out HK7.out HLE.out).mono ?_; rintro e wc ⟨rfl, hb⟩; have q0 := below_cell hb q0; have q1 := below_cell hb q1; have q2 := below_cell hb q2; have q3 := below_cell hb q3; have q4 := below_cell hb q4; have q5 := below_cell hb q5; have q6 := below_cell hb q6; have q7 := below_cell hb q7; have q8 := below_cell hb q8; have q9 := below_cell hb q9; have q10 := below_cell hb q10; have q11 := below_cell hb q11; have q12 := below_cell hb q12; have rg := below_range hb rg; have HB8 := Go.Lib.hid (HB8.out.trans (hb.mono HB8.out.size))))
      all_goals
        go_wp2
        go_ret
        exact ⟨rfl, HB9.out.trans (HB8.out.mono HB9.out.size)⟩
    · by_cases hoi : okI x
      · have HEN : Hid (∀ W, Calls Tryz.prog 9 #[.agg #[.int .i64 (x 0), .int .i64 (x 1), .int .i64 (x 2), .int .i64 (x 3), .int .i64 (x 4), .int .i64 (x 5), .int .i64 (x 6), .int .i64 (x 7), .int .i64 (x 8), .int .i64 (x 9), .int .i64 (x 10), .int .i64 (x 11), .int .i64 (x 12)], .slice none 0 0] W fun e w' => ∃ v, e = .returned (.tuple #[v, .int .i64 0]) ∧ Below W.heap.size W w') := Go.Lib.hid (fun W => (ref22_Encode_nil x hoi W).mono fun _ _ ⟨v, h1, _, h3⟩ => ⟨v, h1, h3⟩)
        have hbf : bw = false := by cases bw; rfl; exact absurd ⟨hoi, rfl⟩ hok
        subst hbf
        clear hok hoi
        go_enter Tryz.func3, Tryz.ntmps3
        go_wp2_with fail
        generalize (w.alloc (.cells #[.int .i64 (x 0), .int .i64 (x 1), .int .i64 (x 2), .int .i64 (x 3), .int .i64 (x 4), .int .i64 (x 5), .int .i64 (x 6), .int .i64 (x 7), .int .i64 (x 8), .int .i64 (x 9), .int .i64 (x 10), .int .i64 (x 11), .int .i64 (x 12)] 23)) = W0 at *
        refine (law22_speaks _).mono ?_
        rintro e w1 ⟨rfl, hb1⟩
        have HB1 := Go.Lib.hid (HB0.out.trans (hb1.mono HB0.out.size))
        have hrow := row_below hb1 HX0.out
        have x0 : w1.cell? ⟨w.heap.size, 0, none⟩ = some (.int .i64 (x 0)) := cell_of_row _ _ _ _ _ _ hrow
        have x1 : w1.cell? ⟨w.heap.size, 1, none⟩ = some (.int .i64 (x 1)) := cell_of_row _ _ _ _ _ _ hrow
        have x2 : w1.cell? ⟨w.heap.size, 2, none⟩ = some (.int .i64 (x 2)) := cell_of_row _ _ _ _ _ _ hrow
        have x3 : w1.cell? ⟨w.heap.size, 3, none⟩ = some (.int .i64 (x 3)) := cell_of_row _ _ _ _ _ _ hrow
        have x4 : w1.cell? ⟨w.heap.size, 4, none⟩ = some (.int .i64 (x 4)) := cell_of_row _ _ _ _ _ _ hrow
        have x5 : w1.cell? ⟨w.heap.size, 5, none⟩ = some (.int .i64 (x 5)) := cell_of_row _ _ _ _ _ _ hrow
        have x6 : w1.cell? ⟨w.heap.size, 6, none⟩ = some (.int .i64 (x 6)) := cell_of_row _ _ _ _ _ _ hrow
        have x7 : w1.cell? ⟨w.heap.size, 7, none⟩ = some (.int .i64 (x 7)) := cell_of_row _ _ _ _ _ _ hrow
        have x8 : w1.cell? ⟨w.heap.size, 8, none⟩ = some (.int .i64 (x 8)) := cell_of_row _ _ _ _ _ _ hrow
        have x9 : w1.cell? ⟨w.heap.size, 9, none⟩ = some (.int .i64 (x 9)) := cell_of_row _ _ _ _ _ _ hrow
        have x10 : w1.cell? ⟨w.heap.size, 10, none⟩ = some (.int .i64 (x 10)) := cell_of_row _ _ _ _ _ _ hrow
        have x11 : w1.cell? ⟨w.heap.size, 11, none⟩ = some (.int .i64 (x 11)) := cell_of_row _ _ _ _ _ _ hrow
        have x12 : w1.cell? ⟨w.heap.size, 12, none⟩ = some (.int .i64 (x 12)) := cell_of_row _ _ _ _ _ _ hrow
        clear hb1 HX0 HB0 hrow
        go_wp2_with fail
        clear x0 x1 x2 x3 x4 x5 x6 x7 x8 x9 x10 x11 x12
        refine (HEN.out _).mono ?_
        rintro e w2 ⟨v2, rfl, hb2⟩
        have HB4 := Go.Lib.hid (HB1.out.trans (hb2.mono HB1.out.size))
        have HK4 := Go.Lib.hid (HK.out.go HB4.out)
        clear hb2 HB1 HEN
        obtain ⟨Y, hY⟩ : ∃ Y, Y = decX zs := ⟨_, rfl⟩
        obtain ⟨k, hk⟩ : ∃ k, k = decK zs := ⟨_, rfl⟩
        obtain ⟨es, hes⟩ : ∃ es, es = decL zs := ⟨_, rfl⟩
        have HLE : Hid (es.length ≤ 1000000) := Go.Lib.hid (by rw [hes]; have := decL_le zs; omega)
        have HS : Hid (∀ W, Below w2.heap.size w2 W → Calls Tryz.prog 10 #[(.slice p0 zs.length q0)] W (DecGot 56 Y k es W)) := Go.Lib.hid (fun W hb => by rw [hY, hk, hes]; exact got_s (HK4.out.go hb) (Nat.le_refl _) HZ.out (by have := HL.out; omega))
        have HR : Hid (∀ W, Below w2.heap.size w2 W → Calls Tryz.prog 11 #[(.slice p0 zs.length q0)] W (DecGot 53 Y k es W)) := Go.Lib.hid (fun W hb => by rw [hY, hk, hes]; exact got_r (HK4.out.go hb) (Nat.le_refl _) HZ.out (by have := HL.out; omega))
        have HB3 := Go.Lib.hid (Below.refl w2.heap.size w2)
        have HB9 := HB4
        clear hY hk hes HK4 HB4
        go_wp2_with fail
        refine (HS.out _ HB3.out).mono ?_
        rintro e w5 ⟨v5, rfl, hke5, hb5⟩
        have hb6 : Below w5.heap.size w5 (w5.alloc (.cells #[.int .i64 (Y 0), .int .i64 (Y 1), .int .i64 (Y 2), .int .i64 (Y 3), .int .i64 (Y 4), .int .i64 (Y 5), .int .i64 (Y 6), .int .i64 (Y 7), .int .i64 (Y 8), .int .i64 (Y 9), .int .i64 (Y 10), .int .i64 (Y 11), .int .i64 (Y 12)] 29)) := (Below.refl _ _).alloc (Nat.le_refl _) _
        have HK6 := Go.Lib.hid ((KEs.of hke5).below hb6)
        have HQ6 := Go.Lib.hid (heap_alloc_new w5 (.cells #[.int .i64 (Y 0), .int .i64 (Y 1), .int .i64 (Y 2), .int .i64 (Y 3), .int .i64 (Y 4), .int .i64 (Y 5), .int .i64 (Y 6), .int .i64 (Y 7), .int .i64 (Y 8), .int .i64 (Y 9), .int .i64 (Y 10), .int .i64 (Y 11), .int .i64 (Y 12)] 29))
        have HB6 := Go.Lib.hid ((HB3.out.trans (hb5.mono HB3.out.size)).trans (hb6.mono (HB3.out.trans (hb5.mono HB3.out.size)).size))
        clear hke5 hb5 hb6 HB3
        go_wp2_with fail
        generalize (w5.alloc (.cells #[.int .i64 (Y 0), .int .i64 (Y 1), .int .i64 (Y 2), .int .i64 (Y 3), .int .i64 (Y 4), .int .i64 (Y 5), .int .i64 (Y 6), .int .i64 (Y 7), .int .i64 (Y 8), .int .i64 (Y 9), .int .i64 (Y 10), .int .i64 (Y 11), .int .i64 (Y 12)] 29)) = W6 at *
        generalize w5.heap.size = g5 at *
        refine (HR.out _ HB6.out).mono ?_
        rintro e w7 ⟨v7, rfl, hke7, hb7⟩
        have hb8 : Below w7.heap.size w7 (w7.alloc (.cells #[.int .i64 (Y 0), .int .i64 (Y 1), .int .i64 (Y 2), .int .i64 (Y 3), .int .i64 (Y 4), .int .i64 (Y 5), .int .i64 (Y 6), .int .i64 (Y 7), .int .i64 (Y 8), .int .i64 (Y 9), .int .i64 (Y 10), .int .i64 (Y 11), .int .i64 (Y 12)] 23)) := (Below.refl _ _).alloc (Nat.le_refl _) _
        have HK5 := Go.Lib.hid ((HK6.out.below hb7).below hb8)
        have HK7 := Go.Lib.hid ((KEs.of hke7).below hb8)
        have HQ5 := row_below hb8 (row_below hb7 HQ6.out)
        have HQ7 := heap_alloc_new w7 (.cells #[.int .i64 (Y 0), .int .i64 (Y 1), .int .i64 (Y 2), .int .i64 (Y 3), .int .i64 (Y 4), .int .i64 (Y 5), .int .i64 (Y 6), .int .i64 (Y 7), .int .i64 (Y 8), .int .i64 (Y 9), .int .i64 (Y 10), .int .i64 (Y 11), .int .i64 (Y 12)] 23)
        have HB8 := Go.Lib.hid ((HB6.out.trans (hb7.mono HB6.out.size)).trans (hb8.mono (HB6.out.trans (hb7.mono HB6.out.size)).size))
        clear hke7 hb7 hb8 HB6 HK6 HQ6 HS HR
        go_wp2_with fail
        generalize (w7.alloc (.cells #[.int .i64 (Y 0), .int .i64 (Y 1), .int .i64 (Y 2), .int .i64 (Y 3), .int .i64 (Y 4), .int .i64 (Y 5), .int .i64 (Y 6), .int .i64 (Y 7), .int .i64 (Y 8), .int .i64 (Y 9), .int .i64 (Y 10), .int .i64 (Y 11), .int .i64 (Y 12)] 23)) = W8 at *
        generalize w7.heap.size = g7 at *
        have q0 : W8.cell? ⟨g5, 0, none⟩ = some (.int .i64 (Y 0)) := cell_of_row _ _ _ _ _ _ HQ5
        have q1 : W8.cell? ⟨g5, 1, none⟩ = some (.int .i64 (Y 1)) := cell_of_row _ _ _ _ _ _ HQ5
        have q2 : W8.cell? ⟨g5, 2, none⟩ = some (.int .i64 (Y 2)) := cell_of_row _ _ _ _ _ _ HQ5
        have q3 : W8.cell? ⟨g5, 3, none⟩ = some (.int .i64 (Y 3)) := cell_of_row _ _ _ _ _ _ HQ5
        have q4 : W8.cell? ⟨g5, 4, none⟩ = some (.int .i64 (Y 4)) := cell_of_row _ _ _ _ _ _ HQ5
        have q5 : W8.cell? ⟨g5, 5, none⟩ = some (.int .i64 (Y 5)) := cell_of_row _ _ _ _ _ _ HQ5
        have q6 : W8.cell? ⟨g5, 6, none⟩ = some (.int .i64 (Y 6)) := cell_of_row _ _ _ _ _ _ HQ5
        have q7 : W8.cell? ⟨g5, 7, none⟩ = some (.int .i64 (Y 7)) := cell_of_row _ _ _ _ _ _ HQ5
        have q8 : W8.cell? ⟨g5, 8, none⟩ = some (.int .i64 (Y 8)) := cell_of_row _ _ _ _ _ _ HQ5
        have q9 : W8.cell? ⟨g5, 9, none⟩ = some (.int .i64 (Y 9)) := cell_of_row _ _ _ _ _ _ HQ5
        have q10 : W8.cell? ⟨g5, 10, none⟩ = some (.int .i64 (Y 10)) := cell_of_row _ _ _ _ _ _ HQ5
        have q11 : W8.cell? ⟨g5, 11, none⟩ = some (.int .i64 (Y 11)) := cell_of_row _ _ _ _ _ _ HQ5
        have q12 : W8.cell? ⟨g5, 12, none⟩ = some (.int .i64 (Y 12)) := cell_of_row _ _ _ _ _ _ HQ5
        have rg : W8.rangeAt g7 0 [.int .i64 (Y 0), .int .i64 (Y 1), .int .i64 (Y 2), .int .i64 (Y 3), .int .i64 (Y 4), .int .i64 (Y 5), .int .i64 (Y 6), .int .i64 (Y 7), .int .i64 (Y 8), .int .i64 (Y 9), .int .i64 (Y 10), .int .i64 (Y 11), .int .i64 (Y 12)] := fun j u hj => by rw [Nat.zero_add, cell_of_row _ _ _ _ _ _ HQ7]; simpa using hj
        have hu23 := Tryz.underlying23
        have hi23 : (Tryz.prog.info? 23).map (·.size) = some ([.int .i64 (Y 0), .int .i64 (Y 1), .int .i64 (Y 2), .int .i64 (Y 3), .int .i64 (Y 4), .int .i64 (Y 5), .int .i64 (Y 6), .int .i64 (Y 7), .int .i64 (Y 8), .int .i64 (Y 9), .int .i64 (Y 10), .int .i64 (Y 11), .int .i64 (Y 12)] : List Value).length := by kernel_rfl
        have hl23 : ([.int .i64 (Y 0), .int .i64 (Y 1), .int .i64 (Y 2), .int .i64 (Y 3), .int .i64 (Y 4), .int .i64 (Y 5), .int .i64 (Y 6), .int .i64 (Y 7), .int .i64 (Y 8), .int .i64 (Y 9), .int .i64 (Y 10), .int .i64 (Y 11), .int .i64 (Y 12)] : List Value).length = 13 := rfl
        have ho23 : ∀ u ∈ ([.int .i64 (Y 0), .int .i64 (Y 1), .int .i64 (Y 2), .int .i64 (Y 3), .int .i64 (Y 4), .int .i64 (Y 5), .int .i64 (Y 6), .int .i64 (Y 7), .int .i64 (Y 8), .int .i64 (Y 9), .int .i64 (Y 10), .int .i64 (Y 11), .int .i64 (Y 12)] : List Value), u.oneCell' = true := by intro u hu; simp only [List.mem_cons, List.not_mem_nil, or_false] at hu; rcases hu with rfl | rfl | rfl | rfl | rfl | rfl | rfl | rfl | rfl | rfl | rfl | rfl | rfl <;> rfl
        clear HQ5 HQ7
        replace HK5 := Go.Lib.hid (HK5.out.below (Below.refl _ _).drew)
        replace HK7 := Go.Lib.hid (HK7.out.below (Below.refl _ _).drew)
        replace HB8 := Go.Lib.hid HB8.out.drew
        go_region_held3 (fun w' => w'.cell? ⟨g5, 0, none⟩ = some (.int .i64 (Y 0)) ∧ w'.cell? ⟨g5, 1, none⟩ = some (.int .i64 (Y 1)) ∧ w'.cell? ⟨g5, 2, none⟩ = some (.int .i64 (Y 2)) ∧ w'.cell? ⟨g5, 3, none⟩ = some (.int .i64 (Y 3)) ∧ w'.cell? ⟨g5, 4, none⟩ = some (.int .i64 (Y 4)) ∧ w'.cell? ⟨g5, 5, none⟩ = some (.int .i64 (Y 5)) ∧ w'.cell? ⟨g5, 6, none⟩ = some (.int .i64 (Y 6)) ∧ w'.cell? ⟨g5, 7, none⟩ = some (.int .i64 (Y 7)) ∧ w'.cell? ⟨g5, 8, none⟩ = some (.int .i64 (Y 8)) ∧ w'.cell? ⟨g5, 9, none⟩ = some (.int .i64 (Y 9)) ∧ w'.cell? ⟨g5, 10, none⟩ = some (.int .i64 (Y 10)) ∧ w'.cell? ⟨g5, 11, none⟩ = some (.int .i64 (Y 11)) ∧ w'.cell? ⟨g5, 12, none⟩ = some (.int .i64 (Y 12)) ∧ w'.rangeAt g7 0 [.int .i64 (Y 0), .int .i64 (Y 1), .int .i64 (Y 2), .int .i64 (Y 3), .int .i64 (Y 4), .int .i64 (Y 5), .int .i64 (Y 6), .int .i64 (Y 7), .int .i64 (Y 8), .int .i64 (Y 9), .int .i64 (Y 10), .int .i64 (Y 11), .int .i64 (Y 12)])
          (first | exact ⟨q0, q1, q2, q3, q4, q5, q6, q7, q8, q9, q10, q11, q12, rg⟩)
          (first
            | (go_at_call 12; refine (law03_Of Y _).mono ?_; rintro e wa ⟨rfl, hb⟩; have q0 := below_cell hb q0; have q1 := below_cell hb q1; have q2 := below_cell hb q2; have q3 := below_cell hb q3; have q4 := below_cell hb q4; have q5 := below_cell hb q5; have q6 := below_cell hb q6; have q7 := below_cell hb q7; have q8 := below_cell hb q8; have q9 := below_cell hb q9; have q10 := below_cell hb q10; have q11 := below_cell hb q11; have q12 := below_cell hb q12; have rg := below_range hb rg; have HK5 := Go.Lib.hid (HK5.out.below hb); have HK7 := Go.Lib.hid (HK7.out.below hb); have HB8 := Go.Lib.hid (HB8.out.trans (hb.mono HB8.out.size)))
            | (go_at_call 14; refine (law22_tos HK5.out (fun b hb => hb) HLE.out).mono ?_; rintro e wb ⟨v8, rfl, ho, hb⟩; have HK8 := Go.Lib.hid (KEs.of (KE.own ho)); have q0 := below_cell hb q0; have q1 := below_cell hb q1; have q2 := below_cell hb q2; have q3 := below_cell hb q3; have q4 := below_cell hb q4; have q5 := below_cell hb q5; have q6 := below_cell hb q6; have q7 := below_cell hb q7; have q8 := below_cell hb q8; have q9 := below_cell hb q9; have q10 := below_cell hb q10; have q11 := below_cell hb q11; have q12 := below_cell hb q12; have rg := below_range hb rg; have HK7 := Go.Lib.hid (HK7.out.below hb); have HB8 := Go.Lib.hid (HB8.out.trans (hb.mono HB8.out.size)))
            | (go_at_call 13; refine (ref22_Same HK8.out HK7.out HLE.out).mono ?_; rintro e wc ⟨rfl, hb⟩; have q0 := below_cell hb q0; have q1 := below_cell hb q1; have q2 := below_cell hb q2; have q3 := below_cell hb q3; have q4 := below_cell hb q4; have q5 := below_cell hb q5; have q6 := below_cell hb q6; have q7 := below_cell hb q7; have q8 := below_cell hb q8; have q9 := below_cell hb q9; have q10 := below_cell hb q10; have q11 := below_cell hb q11; have q12 := below_cell hb q12; have rg := below_range hb rg; have HB8 := Go.Lib.hid (HB8.out.trans (hb.mono HB8.out.size))))
        all_goals
          go_wp2
          go_ret
          exact ⟨rfl, HB9.out.trans (HB8.out.mono HB9.out.size)⟩
      · have HEN := Go.Lib.hid (fun W => ref22_Encode_bad x hoi (.slice none 0 0) W)
        clear hok hoi
        cases bw <;>
        · skip
          go_enter Tryz.func3, Tryz.ntmps3
          go_wp2_with fail
          generalize (w.alloc (.cells #[.int .i64 (x 0), .int .i64 (x 1), .int .i64 (x 2), .int .i64 (x 3), .int .i64 (x 4), .int .i64 (x 5), .int .i64 (x 6), .int .i64 (x 7), .int .i64 (x 8), .int .i64 (x 9), .int .i64 (x 10), .int .i64 (x 11), .int .i64 (x 12)] 23)) = W0 at *
          refine (law22_speaks _).mono ?_
          rintro e w1 ⟨rfl, hb1⟩
          have HB1 := Go.Lib.hid (HB0.out.trans (hb1.mono HB0.out.size))
          have hrow := row_below hb1 HX0.out
          have x0 : w1.cell? ⟨w.heap.size, 0, none⟩ = some (.int .i64 (x 0)) := cell_of_row _ _ _ _ _ _ hrow
          have x1 : w1.cell? ⟨w.heap.size, 1, none⟩ = some (.int .i64 (x 1)) := cell_of_row _ _ _ _ _ _ hrow
          have x2 : w1.cell? ⟨w.heap.size, 2, none⟩ = some (.int .i64 (x 2)) := cell_of_row _ _ _ _ _ _ hrow
          have x3 : w1.cell? ⟨w.heap.size, 3, none⟩ = some (.int .i64 (x 3)) := cell_of_row _ _ _ _ _ _ hrow
          have x4 : w1.cell? ⟨w.heap.size, 4, none⟩ = some (.int .i64 (x 4)) := cell_of_row _ _ _ _ _ _ hrow
          have x5 : w1.cell? ⟨w.heap.size, 5, none⟩ = some (.int .i64 (x 5)) := cell_of_row _ _ _ _ _ _ hrow
          have x6 : w1.cell? ⟨w.heap.size, 6, none⟩ = some (.int .i64 (x 6)) := cell_of_row _ _ _ _ _ _ hrow
          have x7 : w1.cell? ⟨w.heap.size, 7, none⟩ = some (.int .i64 (x 7)) := cell_of_row _ _ _ _ _ _ hrow
          have x8 : w1.cell? ⟨w.heap.size, 8, none⟩ = some (.int .i64 (x 8)) := cell_of_row _ _ _ _ _ _ hrow
          have x9 : w1.cell? ⟨w.heap.size, 9, none⟩ = some (.int .i64 (x 9)) := cell_of_row _ _ _ _ _ _ hrow
          have x10 : w1.cell? ⟨w.heap.size, 10, none⟩ = some (.int .i64 (x 10)) := cell_of_row _ _ _ _ _ _ hrow
          have x11 : w1.cell? ⟨w.heap.size, 11, none⟩ = some (.int .i64 (x 11)) := cell_of_row _ _ _ _ _ _ hrow
          have x12 : w1.cell? ⟨w.heap.size, 12, none⟩ = some (.int .i64 (x 12)) := cell_of_row _ _ _ _ _ _ hrow
          clear hb1 HX0 HB0 hrow
          go_wp2_with fail
          clear x0 x1 x2 x3 x4 x5 x6 x7 x8 x9 x10 x11 x12
          refine (HEN.out _).mono ?_
          rintro e w2 ⟨rfl, hb2⟩
          have HB4 := Go.Lib.hid (HB1.out.trans (hb2.mono HB1.out.size))
          have HK4 := Go.Lib.hid (HK.out.go HB4.out)
          clear hb2 HB1 HEN
          obtain ⟨Y, hY⟩ : ∃ Y, Y = decX zs := ⟨_, rfl⟩
          obtain ⟨k, hk⟩ : ∃ k, k = decK zs := ⟨_, rfl⟩
          obtain ⟨es, hes⟩ : ∃ es, es = decL zs := ⟨_, rfl⟩
          have HLE : Hid (es.length ≤ 1000000) := Go.Lib.hid (by rw [hes]; have := decL_le zs; omega)
          have HS : Hid (∀ W, Below w2.heap.size w2 W → Calls Tryz.prog 10 #[(.slice p0 zs.length q0)] W (DecGot 56 Y k es W)) := Go.Lib.hid (fun W hb => by rw [hY, hk, hes]; exact got_s (HK4.out.go hb) (Nat.le_refl _) HZ.out (by have := HL.out; omega))
          have HR : Hid (∀ W, Below w2.heap.size w2 W → Calls Tryz.prog 11 #[(.slice p0 zs.length q0)] W (DecGot 53 Y k es W)) := Go.Lib.hid (fun W hb => by rw [hY, hk, hes]; exact got_r (HK4.out.go hb) (Nat.le_refl _) HZ.out (by have := HL.out; omega))
          have HB3 := Go.Lib.hid (Below.refl w2.heap.size w2)
          have HB9 := HB4
          clear hY hk hes HK4 HB4
          go_wp2_with fail
          refine (HS.out _ HB3.out).mono ?_
          rintro e w5 ⟨v5, rfl, hke5, hb5⟩
          have hb6 : Below w5.heap.size w5 (w5.alloc (.cells #[.int .i64 (Y 0), .int .i64 (Y 1), .int .i64 (Y 2), .int .i64 (Y 3), .int .i64 (Y 4), .int .i64 (Y 5), .int .i64 (Y 6), .int .i64 (Y 7), .int .i64 (Y 8), .int .i64 (Y 9), .int .i64 (Y 10), .int .i64 (Y 11), .int .i64 (Y 12)] 29)) := (Below.refl _ _).alloc (Nat.le_refl _) _
          have HK6 := Go.Lib.hid ((KEs.of hke5).below hb6)
          have HQ6 := Go.Lib.hid (heap_alloc_new w5 (.cells #[.int .i64 (Y 0), .int .i64 (Y 1), .int .i64 (Y 2), .int .i64 (Y 3), .int .i64 (Y 4), .int .i64 (Y 5), .int .i64 (Y 6), .int .i64 (Y 7), .int .i64 (Y 8), .int .i64 (Y 9), .int .i64 (Y 10), .int .i64 (Y 11), .int .i64 (Y 12)] 29))
          have HB6 := Go.Lib.hid ((HB3.out.trans (hb5.mono HB3.out.size)).trans (hb6.mono (HB3.out.trans (hb5.mono HB3.out.size)).size))
          clear hke5 hb5 hb6 HB3
          go_wp2_with fail
          generalize (w5.alloc (.cells #[.int .i64 (Y 0), .int .i64 (Y 1), .int .i64 (Y 2), .int .i64 (Y 3), .int .i64 (Y 4), .int .i64 (Y 5), .int .i64 (Y 6), .int .i64 (Y 7), .int .i64 (Y 8), .int .i64 (Y 9), .int .i64 (Y 10), .int .i64 (Y 11), .int .i64 (Y 12)] 29)) = W6 at *
          generalize w5.heap.size = g5 at *
          refine (HR.out _ HB6.out).mono ?_
          rintro e w7 ⟨v7, rfl, hke7, hb7⟩
          have hb8 : Below w7.heap.size w7 (w7.alloc (.cells #[.int .i64 (Y 0), .int .i64 (Y 1), .int .i64 (Y 2), .int .i64 (Y 3), .int .i64 (Y 4), .int .i64 (Y 5), .int .i64 (Y 6), .int .i64 (Y 7), .int .i64 (Y 8), .int .i64 (Y 9), .int .i64 (Y 10), .int .i64 (Y 11), .int .i64 (Y 12)] 23)) := (Below.refl _ _).alloc (Nat.le_refl _) _
          have HK5 := Go.Lib.hid ((HK6.out.below hb7).below hb8)
          have HK7 := Go.Lib.hid ((KEs.of hke7).below hb8)
          have HQ5 := row_below hb8 (row_below hb7 HQ6.out)
          have HQ7 := heap_alloc_new w7 (.cells #[.int .i64 (Y 0), .int .i64 (Y 1), .int .i64 (Y 2), .int .i64 (Y 3), .int .i64 (Y 4), .int .i64 (Y 5), .int .i64 (Y 6), .int .i64 (Y 7), .int .i64 (Y 8), .int .i64 (Y 9), .int .i64 (Y 10), .int .i64 (Y 11), .int .i64 (Y 12)] 23)
          have HB8 := Go.Lib.hid ((HB6.out.trans (hb7.mono HB6.out.size)).trans (hb8.mono (HB6.out.trans (hb7.mono HB6.out.size)).size))
          clear hke7 hb7 hb8 HB6 HK6 HQ6 HS HR
          go_wp2_with fail
          generalize (w7.alloc (.cells #[.int .i64 (Y 0), .int .i64 (Y 1), .int .i64 (Y 2), .int .i64 (Y 3), .int .i64 (Y 4), .int .i64 (Y 5), .int .i64 (Y 6), .int .i64 (Y 7), .int .i64 (Y 8), .int .i64 (Y 9), .int .i64 (Y 10), .int .i64 (Y 11), .int .i64 (Y 12)] 23)) = W8 at *
          generalize w7.heap.size = g7 at *
          have q0 : W8.cell? ⟨g5, 0, none⟩ = some (.int .i64 (Y 0)) := cell_of_row _ _ _ _ _ _ HQ5
          have q1 : W8.cell? ⟨g5, 1, none⟩ = some (.int .i64 (Y 1)) := cell_of_row _ _ _ _ _ _ HQ5
          have q2 : W8.cell? ⟨g5, 2, none⟩ = some (.int .i64 (Y 2)) := cell_of_row _ _ _ _ _ _ HQ5
          have q3 : W8.cell? ⟨g5, 3, none⟩ = some (.int .i64 (Y 3)) := cell_of_row _ _ _ _ _ _ HQ5
          have q4 : W8.cell? ⟨g5, 4, none⟩ = some (.int .i64 (Y 4)) := cell_of_row _ _ _ _ _ _ HQ5
          have q5 : W8.cell? ⟨g5, 5, none⟩ = some (.int .i64 (Y 5)) := cell_of_row _ _ _ _ _ _ HQ5
          have q6 : W8.cell? ⟨g5, 6, none⟩ = some (.int .i64 (Y 6)) := cell_of_row _ _ _ _ _ _ HQ5
          have q7 : W8.cell? ⟨g5, 7, none⟩ = some (.int .i64 (Y 7)) := cell_of_row _ _ _ _ _ _ HQ5
          have q8 : W8.cell? ⟨g5, 8, none⟩ = some (.int .i64 (Y 8)) := cell_of_row _ _ _ _ _ _ HQ5
          have q9 : W8.cell? ⟨g5, 9, none⟩ = some (.int .i64 (Y 9)) := cell_of_row _ _ _ _ _ _ HQ5
          have q10 : W8.cell? ⟨g5, 10, none⟩ = some (.int .i64 (Y 10)) := cell_of_row _ _ _ _ _ _ HQ5
          have q11 : W8.cell? ⟨g5, 11, none⟩ = some (.int .i64 (Y 11)) := cell_of_row _ _ _ _ _ _ HQ5
          have q12 : W8.cell? ⟨g5, 12, none⟩ = some (.int .i64 (Y 12)) := cell_of_row _ _ _ _ _ _ HQ5
          have rg : W8.rangeAt g7 0 [.int .i64 (Y 0), .int .i64 (Y 1), .int .i64 (Y 2), .int .i64 (Y 3), .int .i64 (Y 4), .int .i64 (Y 5), .int .i64 (Y 6), .int .i64 (Y 7), .int .i64 (Y 8), .int .i64 (Y 9), .int .i64 (Y 10), .int .i64 (Y 11), .int .i64 (Y 12)] := fun j u hj => by rw [Nat.zero_add, cell_of_row _ _ _ _ _ _ HQ7]; simpa using hj
          have hu23 := Tryz.underlying23
          have hi23 : (Tryz.prog.info? 23).map (·.size) = some ([.int .i64 (Y 0), .int .i64 (Y 1), .int .i64 (Y 2), .int .i64 (Y 3), .int .i64 (Y 4), .int .i64 (Y 5), .int .i64 (Y 6), .int .i64 (Y 7), .int .i64 (Y 8), .int .i64 (Y 9), .int .i64 (Y 10), .int .i64 (Y 11), .int .i64 (Y 12)] : List Value).length := by kernel_rfl
          have hl23 : ([.int .i64 (Y 0), .int .i64 (Y 1), .int .i64 (Y 2), .int .i64 (Y 3), .int .i64 (Y 4), .int .i64 (Y 5), .int .i64 (Y 6), .int .i64 (Y 7), .int .i64 (Y 8), .int .i64 (Y 9), .int .i64 (Y 10), .int .i64 (Y 11), .int .i64 (Y 12)] : List Value).length = 13 := rfl
          have ho23 : ∀ u ∈ ([.int .i64 (Y 0), .int .i64 (Y 1), .int .i64 (Y 2), .int .i64 (Y 3), .int .i64 (Y 4), .int .i64 (Y 5), .int .i64 (Y 6), .int .i64 (Y 7), .int .i64 (Y 8), .int .i64 (Y 9), .int .i64 (Y 10), .int .i64 (Y 11), .int .i64 (Y 12)] : List Value), u.oneCell' = true := by intro u hu; simp only [List.mem_cons, List.not_mem_nil, or_false] at hu; rcases hu with rfl | rfl | rfl | rfl | rfl | rfl | rfl | rfl | rfl | rfl | rfl | rfl | rfl <;> rfl
          clear HQ5 HQ7
          replace HK5 := Go.Lib.hid (HK5.out.below (Below.refl _ _).drew)
          replace HK7 := Go.Lib.hid (HK7.out.below (Below.refl _ _).drew)
          replace HB8 := Go.Lib.hid HB8.out.drew
          go_region_held3 (fun w' => w'.cell? ⟨g5, 0, none⟩ = some (.int .i64 (Y 0)) ∧ w'.cell? ⟨g5, 1, none⟩ = some (.int .i64 (Y 1)) ∧ w'.cell? ⟨g5, 2, none⟩ = some (.int .i64 (Y 2)) ∧ w'.cell? ⟨g5, 3, none⟩ = some (.int .i64 (Y 3)) ∧ w'.cell? ⟨g5, 4, none⟩ = some (.int .i64 (Y 4)) ∧ w'.cell? ⟨g5, 5, none⟩ = some (.int .i64 (Y 5)) ∧ w'.cell? ⟨g5, 6, none⟩ = some (.int .i64 (Y 6)) ∧ w'.cell? ⟨g5, 7, none⟩ = some (.int .i64 (Y 7)) ∧ w'.cell? ⟨g5, 8, none⟩ = some (.int .i64 (Y 8)) ∧ w'.cell? ⟨g5, 9, none⟩ = some (.int .i64 (Y 9)) ∧ w'.cell? ⟨g5, 10, none⟩ = some (.int .i64 (Y 10)) ∧ w'.cell? ⟨g5, 11, none⟩ = some (.int .i64 (Y 11)) ∧ w'.cell? ⟨g5, 12, none⟩ = some (.int .i64 (Y 12)) ∧ w'.rangeAt g7 0 [.int .i64 (Y 0), .int .i64 (Y 1), .int .i64 (Y 2), .int .i64 (Y 3), .int .i64 (Y 4), .int .i64 (Y 5), .int .i64 (Y 6), .int .i64 (Y 7), .int .i64 (Y 8), .int .i64 (Y 9), .int .i64 (Y 10), .int .i64 (Y 11), .int .i64 (Y 12)])
            (first | exact ⟨q0, q1, q2, q3, q4, q5, q6, q7, q8, q9, q10, q11, q12, rg⟩)
            (first
              | (go_at_call 12; refine (law03_Of Y _).mono ?_; rintro e wa ⟨rfl, hb⟩; have q0 := below_cell hb q0; have q1 := below_cell hb q1; have q2 := below_cell hb q2; have q3 := below_cell hb q3; have q4 := below_cell hb q4; have q5 := below_cell hb q5; have q6 := below_cell hb q6; have q7 := below_cell hb q7; have q8 := below_cell hb q8; have q9 := below_cell hb q9; have q10 := below_cell hb q10; have q11 := below_cell hb q11; have q12 := below_cell hb q12; have rg := below_range hb rg; have HK5 := Go.Lib.hid (HK5.out.below hb); have HK7 := Go.Lib.hid (HK7.out.below hb); have HB8 := Go.Lib.hid (HB8.out.trans (hb.mono HB8.out.size)))
              | (go_at_call 14; refine (law22_tos HK5.out (fun b hb => hb) HLE.out).mono ?_; rintro e wb ⟨v8, rfl, ho, hb⟩; have HK8 := Go.Lib.hid (KEs.of (KE.own ho)); have q0 := below_cell hb q0; have q1 := below_cell hb q1; have q2 := below_cell hb q2; have q3 := below_cell hb q3; have q4 := below_cell hb q4; have q5 := below_cell hb q5; have q6 := below_cell hb q6; have q7 := below_cell hb q7; have q8 := below_cell hb q8; have q9 := below_cell hb q9; have q10 := below_cell hb q10; have q11 := below_cell hb q11; have q12 := below_cell hb q12; have rg := below_range hb rg; have HK7 := Go.Lib.hid (HK7.out.below hb); have HB8 := Go.Lib.hid (HB8.out.trans (hb.mono HB8.out.size)))
              | (go_at_call 13; refine (ref22_Same HK8.out HK7.out HLE.out).mono ?_; rintro e wc ⟨rfl, hb⟩; have q0 := below_cell hb q0; have q1 := below_cell hb q1; have q2 := below_cell hb q2; have q3 := below_cell hb q3; have q4 := below_cell hb q4; have q5 := below_cell hb q5; have q6 := below_cell hb q6; have q7 := below_cell hb q7; have q8 := below_cell hb q8; have q9 := below_cell hb q9; have q10 := below_cell hb q10; have q11 := below_cell hb q11; have q12 := below_cell hb q12; have rg := below_range hb rg; have HB8 := Go.Lib.hid (HB8.out.trans (hb.mono HB8.out.size))))
          all_goals
            go_wp2
            go_ret
            exact ⟨rfl, HB9.out.trans (HB8.out.mono HB9.out.size)⟩
  · have hl1 : ((zs.length : Int) > 3000) = True := by simp; omega
    have hl2 : ((3000 : Int) < (zs.length : Int)) = True := by simp; omega
    generalize zs.length = n at *
    have hb0 : Below w.heap.size w (w.alloc (.cells #[.int .i64 (x 0), .int .i64 (x 1), .int .i64 (x 2), .int .i64 (x 3), .int .i64 (x 4), .int .i64 (x 5), .int .i64 (x 6), .int .i64 (x 7), .int .i64 (x 8), .int .i64 (x 9), .int .i64 (x 10), .int .i64 (x 11), .int .i64 (x 12)] 23)) := (Below.refl _ _).alloc (Nat.le_refl _) _
    have HB0 := Go.Lib.hid hb0
    clear h hz hl hb0
    go_enter Tryz.func3, Tryz.ntmps3
    go_wp2_with fail
    generalize (w.alloc (.cells #[.int .i64 (x 0), .int .i64 (x 1), .int .i64 (x 2), .int .i64 (x 3), .int .i64 (x 4), .int .i64 (x 5), .int .i64 (x 6), .int .i64 (x 7), .int .i64 (x 8), .int .i64 (x 9), .int .i64 (x 10), .int .i64 (x 11), .int .i64 (x 12)] 23)) = W0 at *
    refine (law22_speaks _).mono ?_
    rintro e w1 ⟨rfl, hb1⟩
    have HB1 := Go.Lib.hid (HB0.out.trans (hb1.mono HB0.out.size))
    clear hb1
    go_wp2_with fail
    refine (law22_speaks _).mono ?_
    rintro e w2 ⟨rfl, hb2⟩
    have HB2 := Go.Lib.hid (HB1.out.trans (hb2.mono HB1.out.size))
    clear hb2
    go_wp2
    go_ret
    exact ⟨rfl, HB2.out⟩

end Go.Proofs.YtdemhabgaimnmaaGreatDoor
/- What a row's proof opens: a configuration that came in; facts on the program. -/
namespace Go.Proofs.YtdemhabgaimnmaaGreatDoor
open Go.ChangeShapes Go.WideShapes Go.ChangeAt Go.RowKit
set_option maxRecDepth 100000

theorem prog_own : ownKnob Tryz.prog.godebug = none := by kernel_rfl
theorem prog_laidOut : laidOutB Tryz.prog = true := by kernel_rfl

/-- A configuration that came in is thirteen numbers. -/
theorem config_open {W : World} {r : Reach} {base : Nat} {v : Value} (h : Value.okWide Tryz.prog W r base 23 v) :
    ∃ x : Nat → Int, v = .agg #[.int .i64 (x 0), .int .i64 (x 1), .int .i64 (x 2), .int .i64 (x 3), .int .i64 (x 4), .int .i64 (x 5), .int .i64 (x 6), .int .i64 (x 7), .int .i64 (x 8), .int .i64 (x 9), .int .i64 (x 10), .int .i64 (x 11), .int .i64 (x 12)] := by
  have ht : Tryz.prog.cellTypes Tryz.prog.depth 23 = some (List.replicate 13 3) := by kernel_rfl
  have hn : Tryz.prog.cellsOf 23 = 13 := by kernel_rfl
  simp only [Value.okWide, Tryz.underlying23] at h
  obtain ⟨cs, rfl, hsz, ts, hts, _, hc⟩ := h
  rw [hn] at hsz
  obtain rfl : ts = List.replicate 13 3 := by rw [ht] at hts; exact (Option.some.inj hts).symm
  refine ⟨fun i => intOf (cs.getD i .nilFunc), ?_⟩
  have key : ∀ i, (hi : i < 13) → cs.getD i .nilFunc = .int .i64 (intOf (cs.getD i .nilFunc)) := by
    intro i hi
    have hg : cs[i]? = some (cs.getD i .nilFunc) := by
      rw [Array.getD_eq_getD_getElem?]
      simp [hsz, hi]
    obtain ⟨u, hu, hok⟩ := hc i _ hg
    have hu' : u = 3 := by
      rw [List.getElem?_replicate] at hu
      split at hu
      · exact (Option.some.inj hu).symm
      · cases hu
    subst hu'
    generalize cs.getD i .nilFunc = y at hok ⊢
    unfold Cell.okWide at hok
    simp only [Tryz.underlying3] at hok
    unfold Cell.ok at hok
    simp only [Tryz.underlying3] at hok
    cases y <;> simp_all [intOf]
  have e : cs = Array.ofFn (n := 13) fun i => cs.getD i.val .nilFunc := by
    apply Array.ext
    · simp [hsz]
    · intro i h1 h2
      simp [Array.getD, h1]
  have e2 : cs = Array.ofFn (n := 13) fun i => .int .i64 (intOf (cs.getD i.val .nilFunc)) := by
    conv => lhs; rw [e]
    congr 1
    funext i
    exact key i.val i.isLt
  conv => lhs; rw [e2]
  rfl
end Go.Proofs.YtdemhabgaimnmaaGreatDoor
/- Bytes among a law's arguments. -/
namespace Go.Proofs.YtdemhabgaimnmaaGreatDoor
open Go.ChangeShapes Go.WideShapes Go.ChangeAt Go.RowKit
set_option maxRecDepth 100000

section
variable {H : Type} {enc : TypeId × Value → H} {W : World} {base : Nat} {spare : Nat → Bool} {held : Bool}
theorem spot_none {r : Reach} {b0 : Nat} {t e : TypeId} {a : Addr} {n c : Nat} (ht : Tryz.prog.underlying t = some (.slice e)) (h : Value.okWide Tryz.prog W r b0 t (.slice (some a) n c)) : a.spot = none := by
  simp only [Value.okWide, ht, Cell.okWide, Cell.ok] at h
  exact h.2.2.2.1
theorem bytes_openK {v : Value} {r : Reach} {b0 : Nat} (hv : Value.okWide Tryz.prog W r b0 24 v) {fuel : Nat} {x : DataW H × List MemPlace} (h : DataW.trod enc Tryz.prog W base spare held fuel 24 [v] = some x) :
    ∃ zs : List Nat, KBb W.heap.size W v zs ∧ ∀ z ∈ zs, z < 256 := by
  rcases open_ints Tryz.underlying24 Tryz.underlying5 (by kernel_rfl) h with ⟨hc, _⟩ | ⟨a, len, cap, zs, hc, _, hl, _, hzl, _, hcell, hwf⟩
  · injection hc with hc _
    subst hc
    refine ⟨[], ⟨⟨none, 0, rfl, fun i r hi => by cases hi⟩, fun a n c e hn => absurd rfl hn, fun n c e => (by cases e; rfl), fun p n c e => (by cases e; exact Nat.le_refl _)⟩, fun d hd => by cases hd⟩
  · injection hc with hc _
    subst hc
    have hlm : len ≤ zs.length := by rw [hzl]; split <;> omega
    have hb : ∀ z ∈ zs, 0 ≤ z ∧ z < 256 := fun z hz => by
      have := bounds_u8 (hwf z hz)
      omega
    have hcl : ∀ i, i < len → ∃ z : Nat, ((zs.take len).map Int.toNat)[i]? = some z ∧ W.cell? (a.add i) = some (.int .u8 (z : Int)) := by
      intro i hi
      have hil2 : i < zs.length := by omega
      have hm : zs[i] ∈ zs := List.getElem_mem hil2
      have h0 := hb _ hm
      refine ⟨zs[i].toNat, ?_, ?_⟩
      · rw [List.getElem?_map, List.getElem?_take, if_pos hi, List.getElem?_eq_getElem hil2]; rfl
      · rw [hcell i hil2, List.getD_eq_getElem?_getD, List.getElem?_eq_getElem hil2]
        show some (Value.int .u8 zs[i]) = _
        rw [show ((zs[i].toNat : Nat) : Int) = zs[i] by omega]
    have hla : ((zs.take len).map Int.toNat).length = len := by rw [List.length_map, List.length_take, Nat.min_eq_left hlm]
    obtain ⟨g, off, sp⟩ := a
    obtain rfl : sp = none := spot_none Tryz.underlying24 hv
    have hadd : ∀ i, (⟨g, off, none⟩ : Addr).add i = ⟨g, off + i, none⟩ := by
      intro i
      unfold Addr.add
      split
      · rename_i e; subst e; rfl
      · rfl
    refine ⟨(zs.take len).map Int.toNat, ⟨⟨some ⟨g, off, none⟩, cap, by rw [List.length_map, hla], fun i r hi => ?_⟩, fun a' n c e hn => ?_, fun n c e => (by cases e), fun p n c e => (by cases e; exact hl)⟩, fun z hz => ?_⟩
    · rw [List.getElem?_map] at hi
      have hil : i < len := by
        have : i < ((zs.take len).map Int.toNat).length := by
          rcases Nat.lt_or_ge i ((zs.take len).map Int.toNat).length with q | q
          · exact q
          · rw [List.getElem?_eq_none q] at hi; cases hi
        omega
      obtain ⟨z, h1, h2⟩ := hcl i hil
      rw [h1] at hi
      cases hi
      refine ⟨g, off, rfl, fun j u hj => ?_⟩
      have hj0 : j = 0 := by
        have : j < 1 := (List.getElem?_eq_some_iff.1 hj).1
        omega
      subst hj0
      cases hj
      rw [hadd] at h2
      rwa [Nat.mul_one, Nat.add_zero]
    · cases e
      have h0 : 0 < len := by
        rcases Nat.eq_zero_or_pos len with q | q
        · exact absurd (List.map_eq_nil_iff.2 (List.length_eq_zero_iff.1 (by rw [hla]; exact q))) hn
        · exact q
      obtain ⟨z, h1, h2⟩ := hcl 0 h0
      rw [hadd] at h2
      exact cell_lt h2
    · obtain ⟨z', hz', rfl⟩ := List.mem_map.1 hz
      have := hb _ (List.mem_of_mem_take hz')
      omega
end
end Go.Proofs.YtdemhabgaimnmaaGreatDoor
