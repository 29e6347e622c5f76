/- knellref22.Entry of any entry, knellref22.Encode with entries, knelllaw21.Of. -/
import Derived.Test.YtdemhabgaimnmaaGreatDoorJstp
namespace Go.Proofs.YtdemhabgaimnmaaGreatDoor
open Go.RowKit
set_option maxRecDepth 100000
set_option linter.unusedVariables false

theorem ref22_Entry (e0 : Ent) (hr : EntR e0) (w : World) : Calls Tryz.prog 21 #[.agg #[.int .i64 e0.kind, .int .i64 e0.worker, .int .i64 e0.op, .int .i64 e0.node, .int .i64 e0.gen, .int .i64 e0.time, .int .i64 e0.arg, .int .i64 e0.user]] w (EntPost e0 w) := by
  obtain ⟨k, a, o, n, g, t, r, u⟩ := e0
  by_cases h3 : k = 3
  · subst h3; exact ref22_Entry3 a o n g t r u w
  · by_cases h2 : k = 2
    · subst h2
      by_cases he : (⟨2, a, o, n, g, t, r, u⟩ : Ent) = ⟨2, a, 0, 0, 0, 0, 0, 0⟩
      · cases he
        by_cases ha : 0 ≤ a ∧ a < 64
        · obtain ⟨A, rfl⟩ : ∃ A : Nat, a = (A : Int) := ⟨a.toNat, by omega⟩
          exact ref22_Entry2 A (by omega) w
        · exact ref22_Entry2no a ha w
      · exact ref22_Entry2off a o n g t r u he w
    · by_cases h1 : k = 1
      · subst h1
        by_cases ha : (0 ≤ o ∧ o < 64) ∧ 0 ≤ a ∧ a < 256
        · obtain ⟨A, rfl⟩ : ∃ A : Nat, a = (A : Int) := ⟨a.toNat, by omega⟩
          obtain ⟨O, rfl⟩ : ∃ O : Nat, o = (O : Int) := ⟨o.toNat, by omega⟩
          exact ref22_Entry1 A (by omega) O (by omega) n g t r u hr w
        · exact ref22_Entry1no a o n g t r u ha w
      · exact ref22_Entry0 k a o n g t r u h3 h2 h1 w
theorem law12_OfH (n g : Int) (w : World) : Calls Tryz.prog 38 #[.agg #[.int .i64 n, .int .i64 g]] w fun e w' => e = .returned (.agg #[.int .i64 n, .int .i64 g]) ∧ Below w.heap.size w w' := by
  go_enter Tryz.func38, Tryz.ntmps38
  go_wp2
  refine bodyPost_ret (v := .agg #[.int .i64 n, .int .i64 g]) (by simp [results, Tryz.results38, go_sem]) rfl ⟨rfl, ?_⟩
  exact ((Below.refl _ _).alloc (Nat.le_refl _) _).alloc (by simp) _
set_option maxHeartbeats 4000000 in
theorem law21_Of (k a o n g t r u : Int) (w : World) : Calls Tryz.prog 17 #[.agg #[.int .i64 k, .int .i64 a, .int .i64 o, .int .i64 n, .int .i64 g, .int .i64 t, .int .i64 r, .int .i64 u]] w fun e w' => e = .returned (.agg #[.int .i64 k, .int .i64 a, .int .i64 o, .int .i64 n, .int .i64 g, .int .i64 t, .int .i64 r, .int .i64 u]) ∧ Below w.heap.size w w' := by
  have HB := Go.Lib.hid (((Below.refl w.heap.size w).alloc (Nat.le_refl _) (.cells #[.int .i64 k, .int .i64 a, .int .i64 o, .int .i64 n, .int .i64 g, .int .i64 t, .int .i64 r, .int .i64 u] 53)).alloc (by rw [World.size_alloc]; omega) (.cells #[.int .i64 0, .int .i64 0, .int .i64 0, .int .i64 0, .int .i64 0, .int .i64 0, .int .i64 0, .int .i64 0] 56))
  have HA := Go.Lib.hid (row_below ((Below.refl _ (w.alloc (.cells #[.int .i64 k, .int .i64 a, .int .i64 o, .int .i64 n, .int .i64 g, .int .i64 t, .int .i64 r, .int .i64 u] 53))).alloc (Nat.le_refl _) (.cells #[.int .i64 0, .int .i64 0, .int .i64 0, .int .i64 0, .int .i64 0, .int .i64 0, .int .i64 0, .int .i64 0] 56)) (heap_alloc_new w (.cells #[.int .i64 k, .int .i64 a, .int .i64 o, .int .i64 n, .int .i64 g, .int .i64 t, .int .i64 r, .int .i64 u] 53)))
  have hq := heap_alloc_new (w.alloc (.cells #[.int .i64 k, .int .i64 a, .int .i64 o, .int .i64 n, .int .i64 g, .int .i64 t, .int .i64 r, .int .i64 u] 53)) (.cells #[.int .i64 0, .int .i64 0, .int .i64 0, .int .i64 0, .int .i64 0, .int .i64 0, .int .i64 0, .int .i64 0] 56)
  rw [World.size_alloc] at hq
  have HQ := Go.Lib.hid hq
  clear hq
  go_enter Tryz.func17, Tryz.ntmps17
  go_wp2
  generalize ((w.alloc (.cells #[.int .i64 k, .int .i64 a, .int .i64 o, .int .i64 n, .int .i64 g, .int .i64 t, .int .i64 r, .int .i64 u] 53)).alloc (.cells #[.int .i64 0, .int .i64 0, .int .i64 0, .int .i64 0, .int .i64 0, .int .i64 0, .int .i64 0, .int .i64 0] 56)) = w0 at *
  have q0' : w0.cell? ⟨w.heap.size, 0, none⟩ = some (.int .i64 k) := cell_of_row _ _ _ _ _ _ HA.out
  have q0 : ∀ d os, (Sort.grow (redrawn w0 d) os).cell? ⟨w.heap.size, 0, none⟩ = some (.int .i64 k) := fun d os => cell_regrown q0' d os
  have q1' : w0.cell? ⟨w.heap.size, 1, none⟩ = some (.int .i64 a) := cell_of_row _ _ _ _ _ _ HA.out
  have q1 : ∀ d os, (Sort.grow (redrawn w0 d) os).cell? ⟨w.heap.size, 1, none⟩ = some (.int .i64 a) := fun d os => cell_regrown q1' d os
  have q2' : w0.cell? ⟨w.heap.size, 2, none⟩ = some (.int .i64 o) := cell_of_row _ _ _ _ _ _ HA.out
  have q2 : ∀ d os, (Sort.grow (redrawn w0 d) os).cell? ⟨w.heap.size, 2, none⟩ = some (.int .i64 o) := fun d os => cell_regrown q2' d os
  have q3' : w0.cell? ⟨w.heap.size, 3, none⟩ = some (.int .i64 n) := cell_of_row _ _ _ _ _ _ HA.out
  have q3 : ∀ d os, (Sort.grow (redrawn w0 d) os).cell? ⟨w.heap.size, 3, none⟩ = some (.int .i64 n) := fun d os => cell_regrown q3' d os
  have q4' : w0.cell? ⟨w.heap.size, 4, none⟩ = some (.int .i64 g) := cell_of_row _ _ _ _ _ _ HA.out
  have q4 : ∀ d os, (Sort.grow (redrawn w0 d) os).cell? ⟨w.heap.size, 4, none⟩ = some (.int .i64 g) := fun d os => cell_regrown q4' d os
  have q5' : w0.cell? ⟨w.heap.size, 5, none⟩ = some (.int .i64 t) := cell_of_row _ _ _ _ _ _ HA.out
  have q5 : ∀ d os, (Sort.grow (redrawn w0 d) os).cell? ⟨w.heap.size, 5, none⟩ = some (.int .i64 t) := fun d os => cell_regrown q5' d os
  have q6' : w0.cell? ⟨w.heap.size, 6, none⟩ = some (.int .i64 r) := cell_of_row _ _ _ _ _ _ HA.out
  have q6 : ∀ d os, (Sort.grow (redrawn w0 d) os).cell? ⟨w.heap.size, 6, none⟩ = some (.int .i64 r) := fun d os => cell_regrown q6' d os
  have q7' : w0.cell? ⟨w.heap.size, 7, none⟩ = some (.int .i64 u) := cell_of_row _ _ _ _ _ _ HA.out
  have q7 : ∀ d os, (Sort.grow (redrawn w0 d) os).cell? ⟨w.heap.size, 7, none⟩ = some (.int .i64 u) := fun d os => cell_regrown q7' d os
  refine wp_region_below_tail 16 (by kernel_rfl) (by kernel_rfl) ?_
  simp only [List.take_succ_cons, List.take_zero, List.drop_succ_cons, List.drop_zero]
  repeat (go_big_quiet_step (first
    | (go_at_call 38; exact Calls.regrown_of (law12_OfH n g _))
    | fail))
  refine wpQuiet_nil ?_
  intro w1 hw'
  obtain ⟨p, rfl⟩ := hw'
  have hb := below_regrown w0 p.d p.os
  clear q0 q0' q1 q1' q2 q2' q3 q3' q4 q4' q5 q5' q6 q6' q7 q7'
  generalize Sort.grow (redrawn w0 p.d) p.os = w1 at *
  have HQ1 := Go.Lib.hid (row_below hb HQ.out)
  have HB1 := Go.Lib.hid (HB.out.trans (hb.mono HB.out.size))
  clear hb
  have hi8 : (Tryz.prog.info? 56).map (·.size) = some 8 := by kernel_rfl
  have HI8 := Go.Lib.hid hi8
  clear hi8
  go_wp2_with (first
    | ((with_reducible refine wpList_store_rowTo (o := ⟨_, .store _ _ _, _, _, _, _⟩) rfl _ _ _ rfl ?_ (w.heap.size + 1) #[.int .i64 k, .int .i64 a, .int .i64 o, .int .i64 n, .int .i64 g, .int .i64 t, .int .i64 r, .int .i64 u] ?_ ?_ 56 #[.int .i64 0, .int .i64 0, .int .i64 0, .int .i64 0, .int .i64 0, .int .i64 0, .int .i64 0, .int .i64 0] ?_ ?_ ?_ ?_ ?_); rfl; rfl; rfl; exact HQ1.out; exact HI8.out; rfl; exact (by simp [show ∀ k n, (Value.int k n).oneCell' = true from fun _ _ => rfl]); refine Hid.out ?_)
    | fail)
  have HF := Go.Lib.hid (setRow_heap w1 (w.heap.size + 1) _ #[.int .i64 k, .int .i64 a, .int .i64 o, .int .i64 n, .int .i64 g, .int .i64 t, .int .i64 r, .int .i64 u] _ _ HQ1.out)
  have HBF := Go.Lib.hid (below_setRow HB1.out (show w.heap.size ≤ w.heap.size + 1 by omega) #[.int .i64 k, .int .i64 a, .int .i64 o, .int .i64 n, .int .i64 g, .int .i64 t, .int .i64 r, .int .i64 u])
  unfold Hid
  generalize (w1.setRow (w.heap.size + 1) #[.int .i64 k, .int .i64 a, .int .i64 o, .int .i64 n, .int .i64 g, .int .i64 t, .int .i64 r, .int .i64 u]) = w9 at *
  go_wp2
  exact bodyPost_ret (results_cell_row rfl _ _ (w.heap.size + 1) 56 #[.int .i64 k, .int .i64 a, .int .i64 o, .int .i64 n, .int .i64 g, .int .i64 t, .int .i64 r, .int .i64 u] (0, 0) _ rfl HF.out Tryz.underlying56 rfl (by kernel_rfl)) rfl ⟨rfl, HBF.out⟩

theorem ref22_Encode_badE (x : Nat → Int) (hx : ¬ okI x) (es : List Ent) (v : Value) (w : World) : Calls Tryz.prog 9 #[.agg #[.int .i64 (x 0), .int .i64 (x 1), .int .i64 (x 2), .int .i64 (x 3), .int .i64 (x 4), .int .i64 (x 5), .int .i64 (x 6), .int .i64 (x 7), .int .i64 (x 8), .int .i64 (x 9), .int .i64 (x 10), .int .i64 (x 11), .int .i64 (x 12)], v] w (EncPost x es w) := by
  refine (ref22_Encode_bad x hx v w).mono ?_
  rintro e w' ⟨rfl, hb⟩
  exact EncPost.bad hx hb
set_option maxHeartbeats 8000000 in
theorem ref22_Encode_ok (x : Nat → Int) (hx : okI x) (es : List Ent) (hes : ∀ e ∈ es, EntR e) (hn : es.length ≤ 100) (v : Value) (w : World) (h : KEs w v es) : Calls Tryz.prog 9 #[.agg #[.int .i64 (x 0), .int .i64 (x 1), .int .i64 (x 2), .int .i64 (x 3), .int .i64 (x 4), .int .i64 (x 5), .int .i64 (x 6), .int .i64 (x 7), .int .i64 (x 8), .int .i64 (x 9), .int .i64 (x 10), .int .i64 (x 11), .int .i64 (x 12)], v] w (EncPost x es w) := by
  have HCK : Hid (∀ W, Calls Tryz.prog 16 #[.agg #[.int .i64 (x 0), .int .i64 (x 1), .int .i64 (x 2), .int .i64 (x 3), .int .i64 (x 4), .int .i64 (x 5), .int .i64 (x 6), .int .i64 (x 7), .int .i64 (x 8), .int .i64 (x 9), .int .i64 (x 10), .int .i64 (x 11), .int .i64 (x 12)]] W fun e w' => e = .returned (.bool true) ∧ Below W.heap.size W w') := Go.Lib.hid (fun W => by
    have := ref_Right x W
    rwa [decide_eq_true hx] at this)
  have HOK : Hid (∀ i, i < 13 → 0 ≤ x i ∧ x i < 4294967296) := Go.Lib.hid (fun i hi => okI_lt hx i hi)
  have hb0 : Below w.heap.size w (w.alloc (.cells #[.int .i64 (x 0), .int .i64 (x 1), .int .i64 (x 2), .int .i64 (x 3), .int .i64 (x 4), .int .i64 (x 5), .int .i64 (x 6), .int .i64 (x 7), .int .i64 (x 8), .int .i64 (x 9), .int .i64 (x 10), .int .i64 (x 11), .int .i64 (x 12)] 23)) := (Below.refl _ _).alloc (Nat.le_refl _) _
  have HB0 := Go.Lib.hid hb0
  have HX0 := Go.Lib.hid (heap_alloc_new w (.cells #[.int .i64 (x 0), .int .i64 (x 1), .int .i64 (x 2), .int .i64 (x 3), .int .i64 (x 4), .int .i64 (x 5), .int .i64 (x 6), .int .i64 (x 7), .int .i64 (x 8), .int .i64 (x 9), .int .i64 (x 10), .int .i64 (x 11), .int .i64 (x 12)] 23))
  have HX := Go.Lib.hid hx
  have HES := Go.Lib.hid hes
  obtain ⟨p0, q0, rfl⟩ := id (KE.form h)
  have HK0 := Go.Lib.hid h
  have hnl : ((es.length : Int) > 20000) = False := by simp; omega
  have hnl2 : ((20000 : Int) < (es.length : Int)) = False := by simp; omega
  have HN := Go.Lib.hid hn
  have HLJ := Go.Lib.hid (headJ_len x)
  clear hx hes h hb0
  generalize hlen : es.length = N at *
  have HLEN := Go.Lib.hid hlen
  clear hlen
  go_enter Tryz.func9, Tryz.ntmps9
  go_wp2_with fail
  generalize w.alloc (.cells #[.int .i64 (x 0), .int .i64 (x 1), .int .i64 (x 2), .int .i64 (x 3), .int .i64 (x 4), .int .i64 (x 5), .int .i64 (x 6), .int .i64 (x 7), .int .i64 (x 8), .int .i64 (x 9), .int .i64 (x 10), .int .i64 (x 11), .int .i64 (x 12)] 23) = W0 at *
  refine (HCK.out _).mono ?_
  rintro e w2 ⟨rfl, hb2⟩
  have hb3 : Below w2.heap.size w2 (w2.alloc (.cells #[] 5)) := (Below.refl _ _).alloc (Nat.le_refl _) _
  have HB2 := Go.Lib.hid ((HB0.out.trans (hb2.mono HB0.out.size)).trans (hb3.mono (HB0.out.trans (hb2.mono HB0.out.size)).size))
  have HX2 := Go.Lib.hid (row_below hb3 (row_below hb2 HX0.out))
  have HO2 := Go.Lib.hid (own_mono (own_empty w2 5 1) (base' := w.heap.size) (by have := HB0.out.size; have := hb2.size; omega))
  clear hb2 hb3 HB0 HX0
  go_wp2_with fail
  generalize (w2.alloc (.cells #[] 5)) = W3 at *
  go_loopw [6, 7] (fun u6 u7 wr => ∃ (j : Nat) (cur : List Nat), u7 = .int .i64 (j : Nat) ∧ j ≤ 13 ∧ OwnB w.heap.size wr u6 cur ∧ wr.heap[w.heap.size]? = some (.cells #[.int .i64 (x 0), .int .i64 (x 1), .int .i64 (x 2), .int .i64 (x 3), .int .i64 (x 4), .int .i64 (x 5), .int .i64 (x 6), .int .i64 (x 7), .int .i64 (x 8), .int .i64 (x 9), .int .i64 (x 10), .int .i64 (x 11), .int .i64 (x 12)] 23) ∧ Below w.heap.size w wr ∧ cur = headJ x j) (fun _ i _ => 13 - (intOf i).toNat)
  case atStart => exact ⟨0, [], rfl, by decide, HO2.out, HX2.out, HB2.out, rfl⟩
  case round =>
    obtain ⟨j, cur, rfl, hj, hown, hxr, hbw, hcu⟩ := hrel
    obtain ⟨a10, c10, rfl⟩ := own_form hown
    have HOW := Go.Lib.hid hown
    have HXR := Go.Lib.hid hxr
    have HBW := Go.Lib.hid hbw
    have HCU := Go.Lib.hid hcu
    have HCL : Hid (cur.length ≤ 52) := Go.Lib.hid (by rw [hcu, HLJ.out j]; omega)
    clear hown hxr hbw hcu HO2 HX2 HB2
    by_cases hlt : j < 13
    · have cj : wr.cell? ⟨w.heap.size, j, none⟩ = some (.int .i64 (x j)) := by
        rw [cell_of_row _ _ _ _ _ _ HXR.out]
        match j, hlt with
        | 0, _ | 1, _ | 2, _ | 3, _ | 4, _ | 5, _ | 6, _ | 7, _ | 8, _ | 9, _ | 10, _ | 11, _ | 12, _ => rfl
      obtain ⟨hx0, hx1⟩ := HOK.out j hlt
      have HBY : Hid (∀ W, Calls Tryz.prog 20 #[.int .i64 (x j), .int .i64 4] W fun e w' => ∃ v, e = .returned v ∧ w'.ownsRow W.heap.size 5 1 v 4 ((bytesL (x j).toNat 4).map fun (z : Nat) => Value.int .u8 (z : Int)) ∧ Below W.heap.size W w') := Go.Lib.hid (fun W => by
        refine (ref22_Bytes (x j) (by omega) 4 (by decide) W).mono ?_
        rintro e w' ⟨v, bs, rfl, h1, h2, h3, h4⟩
        rw [h2 hx0, bytesL_len] at h3
        exact ⟨v, rfl, h3, h4⟩)
      have hb1 : (0 : Int) ≤ (j : Int) := by omega
      have hb2 : (j : Int) < 13 := by omega
      go_wp2_with fail
      refine (HBY.out _).mono ?_
      rintro e w5 ⟨vb, rfl, hob, hb5⟩
      have HO5 := Go.Lib.hid (own_below HOW.out hb5)
      have HX5 := Go.Lib.hid (row_below hb5 HXR.out)
      have HB5 := Go.Lib.hid (HBW.out.trans (hb5.mono HBW.out.size))
      have HKV : Hid (KBb w5.heap.size w5 vb (bytesL (x j).toNat 4)) := Go.Lib.hid (KBb.own (by rw [bytesL_len]; exact hob))
      have HBL := Go.Lib.hid (bytesL_len 4 (x j).toNat)
      clear hob hb5 cj
      go_wp2_with (first
        | (at_builtin; refine wpList_append_kb rfl _ _ rfl w.heap.size _ cur rfl HO5.out _ _ (bytesL (x j).toNat 4) rfl HKV.out (by rw [HBL.out]; have := HCL.out; omega) HB5.out.size ?_; intro v6 w6 hown6 hto6; have HO6 := Go.Lib.hid hown6; have HT6 := Go.Lib.hid hto6; clear hown6 hto6)
        | fail)
      go_roundw
      case rel => exact ⟨j + 1, cur ++ bytesL (x j).toNat 4, by go_num, by omega, HO6.out, HT6.out.keep _ _ _ _ (by decide) HX5.out, HB5.out.trans HT6.out.below, by rw [HCU.out]; rfl⟩
      case measure => simp [intOf]; omega
    · have hj13 : j = 13 := by omega
      subst hj13
      rw [show (((13 : Nat)) : Int) = 13 from rfl]
      go_wp2_with fail
      generalize wr = W6 at *
      go_loopw [6, 8] (fun u6 u8 wr => ∃ (j : Nat) (bs cur : List Nat), u8 = .int .i64 (j : Nat) ∧ j ≤ N ∧ encP (es.take j) = some bs ∧ OwnB w.heap.size wr u6 cur ∧ Below w.heap.size w wr ∧ cur = headJ x 13 ++ bs) (fun _ i _ => N - (intOf i).toNat)
      case atStart => exact ⟨0, [], cur, rfl, Nat.zero_le _, rfl, HOW.out, HBW.out, by rw [List.append_nil]; exact HCU.out⟩
      case round =>
        obtain ⟨j, bs, cur2, rfl, hj2, hbs, hown, hbw, hcu⟩ := hrel
        have HC2 := Go.Lib.hid hcu
        clear hcu
        obtain ⟨a9, q9, rfl⟩ := own_form hown
        have HOR := Go.Lib.hid hown
        have HBR := Go.Lib.hid hbw
        have HBS := Go.Lib.hid hbs
        clear hown hbw hbs HOW HBW HXR
        by_cases hlt2 : j < N
        · obtain ⟨E1, hE1⟩ : ∃ E1, es[j]? = some E1 := ⟨_, List.getElem?_eq_getElem (by rw [HLEN.out]; exact hlt2)⟩
          have hkr : KE (fun b => b < w.heap.size) wr (.slice p0 N q0) es := by have := KE.keep HK0.out (fun b hb => HBR.out.block b hb); first | exact this | rwa [HLEN.out] at this
          obtain ⟨g, off, c', ee, hkg, hcell⟩ := KE.open hkr (by rw [HLEN.out]; omega)
          injection ee with e1 e2 e3
          clear e2
          subst e1
          subst e3
          have HC : Hid (∀ (i : Nat) (u : Value), E1.cells[i]? = some u → wr.cell? ⟨g, off + j * 8 + i, none⟩ = some u) := Go.Lib.hid (fun i u hi => hcell j E1 hE1 i u hi)
          have cc0 : wr.cell? ⟨g, off + j * 8, none⟩ = some (.int .i64 E1.kind) := HC.out 0 _ rfl
          have cc1 : wr.cell? ⟨g, off + j * 8 + 1, none⟩ = some (.int .i64 E1.worker) := HC.out 1 _ rfl
          have cc2 : wr.cell? ⟨g, off + j * 8 + 2, none⟩ = some (.int .i64 E1.op) := HC.out 2 _ rfl
          have cc3 : wr.cell? ⟨g, off + j * 8 + 3, none⟩ = some (.int .i64 E1.node) := HC.out 3 _ rfl
          have cc4 : wr.cell? ⟨g, off + j * 8 + 4, none⟩ = some (.int .i64 E1.gen) := HC.out 4 _ rfl
          have cc5 : wr.cell? ⟨g, off + j * 8 + 5, none⟩ = some (.int .i64 E1.time) := HC.out 5 _ rfl
          have cc6 : wr.cell? ⟨g, off + j * 8 + 6, none⟩ = some (.int .i64 E1.arg) := HC.out 6 _ rfl
          have cc7 : wr.cell? ⟨g, off + j * 8 + 7, none⟩ = some (.int .i64 E1.user) := HC.out 7 _ rfl
          have b1 : (0 : Int) ≤ (j : Int) := by omega
          have b2 : (j : Int) < (N : Int) := by omega
          have HE1 := Go.Lib.hid hE1
          have HLL : Hid (cur2.length ≤ 800000) := Go.Lib.hid (by
            rw [HC2.out]
            have h1 := encP_len HBS.out
            have h2 := HLJ.out 13
            have h3 : (es.take j).length ≤ 100 := by rw [List.length_take]; have := HN.out; omega
            rw [List.length_append, h2]; omega)
          have HEY := Go.Lib.hid (fun W => ref22_Entry E1 (HES.out E1 (List.mem_of_getElem? hE1)) W)
          clear hkr hcell hE1 HC
          go_wp2_with fail
          refine (HEY.out _).mono ?_
          rintro e w7 ⟨v7, ok, rfl, hb7, hok7, hbs7⟩
          have HB7 := Go.Lib.hid (HBR.out.trans (hb7.mono HBR.out.size))
          have HO7 := Go.Lib.hid (own_below HOR.out hb7)
          clear hb7 cc0 cc1 cc2 cc3 cc4 cc5 cc6 cc7
          cases hl : layP E1 with
          | none =>
            have hok : ok = false := by
              cases ok with
              | false => rfl
              | true => have := hok7.1 rfl; rw [hl] at this; cases this
            subst hok
            have HEN : Hid (encP es = none) := Go.Lib.hid (encP_cut (k := j + 1) (by rw [encP_snoc' HE1.out HBS.out, hl]; rfl))
            clear hok7 hbs7 hl
            go_wp2
            go_ret2
            exact EncPost.arg HX.out HEN.out HB7.out
          | some c =>
            have hok : ok = true := hok7.2 (by rw [hl]; rfl)
            subst hok
            have HK7 := Go.Lib.hid (hbs7 c hl)
            have HEN : Hid (encP (es.take (j + 1)) = some (bs ++ c)) := Go.Lib.hid (by rw [encP_snoc' HE1.out HBS.out, hl]; rfl)
            have HCL7 := Go.Lib.hid (layP_len hl)
            clear hok7 hbs7 hl
            go_wp2_with (first
              | (at_builtin; refine wpList_append_kb rfl _ _ rfl w.heap.size _ cur2 rfl HO7.out _ _ c rfl HK7.out (by have := HCL7.out; have := HLL.out; omega) HB7.out.size ?_; intro v8 w8 hown8 hto8; have HO8 := Go.Lib.hid hown8; have HB8 := Go.Lib.hid (HB7.out.trans hto8.below); clear hown8 hto8)
              | fail)
            go_roundw
            case rel => exact ⟨j + 1, bs ++ c, cur2 ++ c, by go_num, by omega, HEN.out, HO8.out, HB8.out, by rw [HC2.out, List.append_assoc]⟩
            case measure => simp [intOf]; omega
        · have hjN : j = N := by omega
          subst hjN
          have b1 : ((j : Int) < (j : Int)) = False := by simp
          have HEN : Hid (encP es = some bs) := Go.Lib.hid (by have := HBS.out; rwa [List.take_of_length_le (by rw [HLEN.out]; exact Nat.le_refl _)] at this)
          go_wp2
          go_ret2
          exact EncPost.ok HX.out HEN.out HBR.out (by rw [← HC2.out]; exact HOR.out)
end Go.Proofs.YtdemhabgaimnmaaGreatDoor
