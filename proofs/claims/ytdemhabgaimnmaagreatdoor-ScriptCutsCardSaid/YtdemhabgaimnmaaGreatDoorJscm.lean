/- A script's bytes, cut off anywhere behind its configuration. -/
import Derived.Test.YtdemhabgaimnmaaGreatDoorJscl
import Derived.ProofKit
import Derived.OpenShut
import Derived.ChangeSlices
namespace Go.Proofs.YtdemhabgaimnmaaGreatDoor
open Go.RowKit
set_option maxRecDepth 100000
set_option linter.unusedVariables false

/-- A slice's first elements. -/
theorem KRows.take {K : Nat → Prop} {w : World} {k n c m : Nat} {p : Option Addr} {rows : List (List Value)} (h : KRows K w k (.slice p n c) rows) (hm : m ≤ rows.length) : KRows K w k (.slice p m c) (rows.take m) := by
  obtain ⟨p', c', e, h1⟩ := id h.at'
  injection e with e1 e2 e3
  subst e1 e3
  refine ⟨⟨p, c, by rw [List.length_take, Nat.min_eq_left hm], fun i r hi => ?_⟩, fun a n' c'' e hn => ?_, fun n' c'' e => ?_, fun p' n' c'' e => ?_⟩
  · rw [List.getElem?_take] at hi
    split at hi
    · exact h1 i r hi
    · cases hi
  · cases e
    exact h.kind _ _ _ rfl (by intro q; rw [q] at hn; exact hn (List.take_nil))
  · cases e
    exact h.nil _ _ rfl
  · cases e
    have := h.cap _ _ _ rfl
    omega
theorem KB.take {K : Nat → Prop} {w : World} {n c m : Nat} {p : Option Addr} {l : List Nat} (h : KB K w (.slice p n c) l) (hm : m ≤ l.length) : KB K w (.slice p m c) (l.take m) := by
  have := KRows.take h (m := m) (by rwa [List.length_map])
  rw [← List.map_take] at this
  exact this
theorem KE.take {K : Nat → Prop} {w : World} {n c m : Nat} {p : Option Addr} {l : List Ent} (h : KE K w (.slice p n c) l) (hm : m ≤ l.length) : KE K w (.slice p m c) (l.take m) := by
  have := KRows.take h (m := m) (by rwa [List.length_map])
  rw [← List.map_take] at this
  exact this
theorem drop_head (x : Nat → Int) (r : List Nat) : (headJ x 13 ++ r).drop 52 = r := by
  rw [show (52 : Nat) = (headJ x 13).length from (headJ_len x 13).symm, List.drop_left]
theorem dec_head {x : Nat → Int} (hok : okI x) (r : List Nat) : (decP r [] = none ∧ decK (headJ x 13 ++ r) = 3) ∨ ∃ es, decP r [] = some es ∧ decK (headJ x 13 ++ r) = 0 ∧ decL (headJ x 13 ++ r) = es ∧ ∀ i, i < 13 → decX (headJ x 13 ++ r) i = x i := by
  have hl : ¬ (headJ x 13 ++ r).length < 52 := by rw [List.length_append, headJ_len]; omega
  cases hp : decP r [] with
  | none => exact .inl ⟨rfl, dec_full hl (okI_head hok r) (by rw [drop_head]; exact hp)⟩
  | some es =>
    have h0 := dec_ok hl (okI_head hok r) (es := es) (by rw [drop_head]; exact hp)
    exact .inr ⟨es, rfl, h0, decL_ok h0 (by rw [drop_head]; exact hp), fun i hi => by rw [decX_ok h0]; exact cfg_head hok r i hi⟩
theorem DecGot.cfg {T : TypeId} {Y x : Nat → Int} {k : Int} {es : List Ent} {w w' : World} {e : Ending} (h : DecGot T Y k es w e w') (hx : ∀ i, i < 13 → Y i = x i) : DecGot T x k es w e w' := by
  unfold DecGot at h ⊢
  rw [hx 0 (by decide), hx 1 (by decide), hx 2 (by decide), hx 3 (by decide), hx 4 (by decide), hx 5 (by decide), hx 6 (by decide), hx 7 (by decide), hx 8 (by decide), hx 9 (by decide), hx 10 (by decide), hx 11 (by decide), hx 12 (by decide)] at h
  exact h

theorem right_yes {x : Nat → Int} (h : okI x) (W : World) : Calls Tryz.prog 16 #[.agg #[.int .i64 (x 0), .int .i64 (x 1), .int .i64 (x 2), .int .i64 (x 3), .int .i64 (x 4), .int .i64 (x 5), .int .i64 (x 6), .int .i64 (x 7), .int .i64 (x 8), .int .i64 (x 9), .int .i64 (x 10), .int .i64 (x 11), .int .i64 (x 12)]] W fun e w' => e = .returned (.bool true) ∧ Below W.heap.size W w' := by
  have := ref_Right x W
  rwa [decide_eq_true h] at this
theorem right_no {x : Nat → Int} (h : ¬ okI x) (W : World) : Calls Tryz.prog 16 #[.agg #[.int .i64 (x 0), .int .i64 (x 1), .int .i64 (x 2), .int .i64 (x 3), .int .i64 (x 4), .int .i64 (x 5), .int .i64 (x 6), .int .i64 (x 7), .int .i64 (x 8), .int .i64 (x 9), .int .i64 (x 10), .int .i64 (x 11), .int .i64 (x 12)]] W fun e w' => e = .returned (.bool false) ∧ Below W.heap.size W w' := by
  have := ref_Right x W
  rwa [decide_eq_false h] at this
set_option maxHeartbeats 8000000 in
theorem law22_ScriptCuts (x : Nat → Int) (zs : List Nat) (v : Value) (cut : Nat) (hcut : cut < 65536) (w : World) (h : KBb w.heap.size w v zs) (hz : ∀ z ∈ zs, z < 256) :
    Calls Tryz.prog 5 #[.agg #[.int .i64 (x 0), .int .i64 (x 1), .int .i64 (x 2), .int .i64 (x 3), .int .i64 (x 4), .int .i64 (x 5), .int .i64 (x 6), .int .i64 (x 7), .int .i64 (x 8), .int .i64 (x 9), .int .i64 (x 10), .int .i64 (x 11), .int .i64 (x 12)], v, .int .u16 (cut : Int)] w fun e w' => e = .returned (.bool true) ∧ Below w.heap.size w w' := by
  obtain ⟨p0, q0, rfl, _⟩ := id (KB.form h)
  have hb0 : Below w.heap.size w (w.alloc (.cells #[.int .i64 (x 0), .int .i64 (x 1), .int .i64 (x 2), .int .i64 (x 3), .int .i64 (x 4), .int .i64 (x 5), .int .i64 (x 6), .int .i64 (x 7), .int .i64 (x 8), .int .i64 (x 9), .int .i64 (x 10), .int .i64 (x 11), .int .i64 (x 12)] 23)) := (Below.refl _ _).alloc (Nat.le_refl _) _
  have HB0 := Go.Lib.hid hb0
  have HX0 := Go.Lib.hid (heap_alloc_new w (.cells #[.int .i64 (x 0), .int .i64 (x 1), .int .i64 (x 2), .int .i64 (x 3), .int .i64 (x 4), .int .i64 (x 5), .int .i64 (x 6), .int .i64 (x 7), .int .i64 (x 8), .int .i64 (x 9), .int .i64 (x 10), .int .i64 (x 11), .int .i64 (x 12)] 23))
  clear hb0
  by_cases hl : zs.length ≤ 400
  · have hl1 : ((zs.length : Int) > 400) = False := by simp; omega
    have hl2 : ((400 : Int) < (zs.length : Int)) = False := by simp; omega
    have HK := Go.Lib.hid h
    have HZ := Go.Lib.hid hz
    have HL := Go.Lib.hid hl
    clear h hz hl
    by_cases hok : okI x
    · have HRT := Go.Lib.hid (fun W => right_yes hok W)
      have HEN := Go.Lib.hid (fun W => ref22_Encode_nil x hok W)
      have HOK := Go.Lib.hid hok
      clear hok
      go_enter Tryz.func5, Tryz.ntmps5
      go_wp2_with fail
      generalize (w.alloc (.cells #[.int .i64 (x 0), .int .i64 (x 1), .int .i64 (x 2), .int .i64 (x 3), .int .i64 (x 4), .int .i64 (x 5), .int .i64 (x 6), .int .i64 (x 7), .int .i64 (x 8), .int .i64 (x 9), .int .i64 (x 10), .int .i64 (x 11), .int .i64 (x 12)] 23)) = W0 at *
      refine (law22_speaks _).mono ?_
      rintro e w1 ⟨rfl, hb1⟩
      have HB1 := Go.Lib.hid (HB0.out.trans (hb1.mono HB0.out.size))
      have hrow := row_below hb1 HX0.out
      have x0 : w1.cell? ⟨w.heap.size, 0, none⟩ = some (.int .i64 (x 0)) := cell_of_row _ _ _ _ _ _ hrow
      have x1 : w1.cell? ⟨w.heap.size, 1, none⟩ = some (.int .i64 (x 1)) := cell_of_row _ _ _ _ _ _ hrow
      have x2 : w1.cell? ⟨w.heap.size, 2, none⟩ = some (.int .i64 (x 2)) := cell_of_row _ _ _ _ _ _ hrow
      have x3 : w1.cell? ⟨w.heap.size, 3, none⟩ = some (.int .i64 (x 3)) := cell_of_row _ _ _ _ _ _ hrow
      have x4 : w1.cell? ⟨w.heap.size, 4, none⟩ = some (.int .i64 (x 4)) := cell_of_row _ _ _ _ _ _ hrow
      have x5 : w1.cell? ⟨w.heap.size, 5, none⟩ = some (.int .i64 (x 5)) := cell_of_row _ _ _ _ _ _ hrow
      have x6 : w1.cell? ⟨w.heap.size, 6, none⟩ = some (.int .i64 (x 6)) := cell_of_row _ _ _ _ _ _ hrow
      have x7 : w1.cell? ⟨w.heap.size, 7, none⟩ = some (.int .i64 (x 7)) := cell_of_row _ _ _ _ _ _ hrow
      have x8 : w1.cell? ⟨w.heap.size, 8, none⟩ = some (.int .i64 (x 8)) := cell_of_row _ _ _ _ _ _ hrow
      have x9 : w1.cell? ⟨w.heap.size, 9, none⟩ = some (.int .i64 (x 9)) := cell_of_row _ _ _ _ _ _ hrow
      have x10 : w1.cell? ⟨w.heap.size, 10, none⟩ = some (.int .i64 (x 10)) := cell_of_row _ _ _ _ _ _ hrow
      have x11 : w1.cell? ⟨w.heap.size, 11, none⟩ = some (.int .i64 (x 11)) := cell_of_row _ _ _ _ _ _ hrow
      have x12 : w1.cell? ⟨w.heap.size, 12, none⟩ = some (.int .i64 (x 12)) := cell_of_row _ _ _ _ _ _ hrow
      have HX1 := Go.Lib.hid hrow
      clear hb1 HX0 HB0 hrow
      go_wp2_with fail
      refine (HRT.out _).mono ?_
      rintro e wr ⟨rfl, hbr⟩
      have hrow := row_below hbr HX1.out
      replace HB1 := Go.Lib.hid (HB1.out.trans (hbr.mono HB1.out.size))
      clear x0 x1 x2 x3 x4 x5 x6 x7 x8 x9 x10 x11 x12
      have x0 : wr.cell? ⟨w.heap.size, 0, none⟩ = some (.int .i64 (x 0)) := cell_of_row _ _ _ _ _ _ hrow
      have x1 : wr.cell? ⟨w.heap.size, 1, none⟩ = some (.int .i64 (x 1)) := cell_of_row _ _ _ _ _ _ hrow
      have x2 : wr.cell? ⟨w.heap.size, 2, none⟩ = some (.int .i64 (x 2)) := cell_of_row _ _ _ _ _ _ hrow
      have x3 : wr.cell? ⟨w.heap.size, 3, none⟩ = some (.int .i64 (x 3)) := cell_of_row _ _ _ _ _ _ hrow
      have x4 : wr.cell? ⟨w.heap.size, 4, none⟩ = some (.int .i64 (x 4)) := cell_of_row _ _ _ _ _ _ hrow
      have x5 : wr.cell? ⟨w.heap.size, 5, none⟩ = some (.int .i64 (x 5)) := cell_of_row _ _ _ _ _ _ hrow
      have x6 : wr.cell? ⟨w.heap.size, 6, none⟩ = some (.int .i64 (x 6)) := cell_of_row _ _ _ _ _ _ hrow
      have x7 : wr.cell? ⟨w.heap.size, 7, none⟩ = some (.int .i64 (x 7)) := cell_of_row _ _ _ _ _ _ hrow
      have x8 : wr.cell? ⟨w.heap.size, 8, none⟩ = some (.int .i64 (x 8)) := cell_of_row _ _ _ _ _ _ hrow
      have x9 : wr.cell? ⟨w.heap.size, 9, none⟩ = some (.int .i64 (x 9)) := cell_of_row _ _ _ _ _ _ hrow
      have x10 : wr.cell? ⟨w.heap.size, 10, none⟩ = some (.int .i64 (x 10)) := cell_of_row _ _ _ _ _ _ hrow
      have x11 : wr.cell? ⟨w.heap.size, 11, none⟩ = some (.int .i64 (x 11)) := cell_of_row _ _ _ _ _ _ hrow
      have x12 : wr.cell? ⟨w.heap.size, 12, none⟩ = some (.int .i64 (x 12)) := cell_of_row _ _ _ _ _ _ hrow
      have HXR := Go.Lib.hid hrow
      clear hrow hbr HX1 HRT
      go_wp2_with fail
      clear x0 x1 x2 x3 x4 x5 x6 x7 x8 x9 x10 x11 x12
      refine (HEN.out _).mono ?_
      rintro e w2 ⟨v2, rfl, ho2, hb2⟩
      obtain ⟨a2, q2, rfl⟩ := own_form ho2
      have HO2 := Go.Lib.hid (own_mono ho2 HB1.out.size)
      have HB2 := Go.Lib.hid (HB1.out.trans (hb2.mono HB1.out.size))
      have HK2 := Go.Lib.hid (HK.out.go HB2.out)
      have HX2 := Go.Lib.hid (row_below hb2 HXR.out)
      have HLN := Go.Lib.hid (headJ_len x 13)
      have HLT := Go.Lib.hid (headJ_lt x 13)
      obtain ⟨hd, hhd⟩ : ∃ hd, hd = headJ x 13 := ⟨_, rfl⟩
      have HHD := Go.Lib.hid hhd
      rw [← hhd] at HO2 HLN HLT ⊢
      clear ho2 hb2 HB1 HEN HXR hhd
      go_wp2_with (first
        | (at_builtin; refine wpList_append_kb rfl _ _ rfl w.heap.size _ hd rfl HO2.out _ (fun b => b < w2.heap.size) zs rfl HK2.out (by rw [HLN.out]; have := HL.out; omega) HB2.out.size ?_; intro v4 w4 hown4 hto4; have HK4 : Hid (KBb w4.heap.size w4 v4 (hd ++ zs)) := Go.Lib.hid (KBb.own hown4); have HX4 := Go.Lib.hid (hto4.keep _ _ _ _ (by decide) HX2.out); have HB4 := Go.Lib.hid (HB2.out.trans hto4.below); clear hown4 hto4 HO2 HB2 HK2 HX2)
        | fail)
      obtain ⟨p4, c4, rfl, _⟩ := KB.form HK4.out
      have hle4 : (hd ++ zs).length ≤ c4 := HK4.out.cap _ _ _ rfl
      have hl4 : (hd ++ zs).length = 52 + zs.length := by rw [List.length_append, HLN.out]
      rw [hl4] at hle4 ⊢
      have HZ4 : Hid (∀ z ∈ hd ++ zs, z < 256) := Go.Lib.hid (fun z hz => by rcases List.mem_append.1 hz with q | q; exact HLT.out z q; exact HZ.out z q)
      have HK4' : Hid (KBb w4.heap.size w4 (.slice p4 (52 + zs.length) c4) (hd ++ zs)) := Go.Lib.hid (by have := HK4.out; rwa [hl4] at this)
      clear HK4 hl4
      obtain ⟨a4, rfl⟩ : ∃ a, p4 = some a := by
        cases p4 with
        | none => have := HK4'.out.nil _ _ rfl; omega
        | some a => exact ⟨a, rfl⟩
      rcases dec_head HOK.out zs with ⟨_, hk⟩ | ⟨es, hes, hk, hL, hx⟩
      · have HS : Hid (Calls Tryz.prog 10 #[.slice (some a4) (52 + zs.length) c4] w4 (DecGot 56 (decX (hd ++ zs)) 3 (decL (hd ++ zs)) w4)) := Go.Lib.hid (by
          have := got_s HK4'.out (Nat.le_refl _) HZ4.out (by rw [List.length_append, HLN.out]; have := HL.out; omega)
          rwa [show decK (hd ++ zs) = 3 by rw [HHD.out]; exact hk] at this)
        clear hk
        generalize decX (hd ++ zs) = Y at *
        refine HS.out.mono ?_
        rintro e w5 ⟨v5, rfl, hke5, hb5⟩
        have HB5 := Go.Lib.hid ((HB4.out.trans (hb5.mono HB4.out.size)).alloc (Nat.le_trans HB4.out.size hb5.size) (.cells #[.int .i64 (Y 0), .int .i64 (Y 1), .int .i64 (Y 2), .int .i64 (Y 3), .int .i64 (Y 4), .int .i64 (Y 5), .int .i64 (Y 6), .int .i64 (Y 7), .int .i64 (Y 8), .int .i64 (Y 9), .int .i64 (Y 10), .int .i64 (Y 11), .int .i64 (Y 12)] 29))
        clear hke5 hb5 HB4
        go_wp2
        go_ret
        exact ⟨rfl, HB5.out⟩
      · obtain ⟨j, hj⟩ : ∃ j, j = cut % (zs.length + 1) := ⟨_, rfl⟩
        have hjl : j ≤ zs.length := by have := Nat.mod_lt cut (show 0 < zs.length + 1 by omega); omega
        obtain ⟨ms, hms, cs, hcs⟩ := decP_pre (b' := zs.take j) ⟨zs.drop j, (List.take_append_drop j zs).symm⟩ hes
        have HS : Hid (Calls Tryz.prog 10 #[.slice (some a4) (52 + zs.length) c4] w4 (DecGot 56 x 0 es w4)) := Go.Lib.hid (by
          have := got_s HK4'.out (Nat.le_refl _) HZ4.out (by rw [List.length_append, HLN.out]; have := HL.out; omega)
          rw [show decK (hd ++ zs) = 0 by rw [HHD.out]; exact hk, show decL (hd ++ zs) = es by rw [HHD.out]; exact hL] at this
          exact this.mono fun _ _ h => h.cfg (fun i hi => by rw [HHD.out]; exact hx i hi))
        have HS2 : Hid (∀ W, Below w4.heap.size w4 W → Calls Tryz.prog 10 #[.slice (some a4) (52 + j) c4] W (DecGot 56 x 0 ms W)) := Go.Lib.hid (fun W hb => by
          have hkb : KBb W.heap.size W (.slice (some a4) (52 + j) c4) (hd ++ zs.take j) := by
            have h1 := KB.take (m := 52 + j) (HK4'.out.go hb) (by rw [List.length_append, HLN.out]; omega)
            rwa [List.take_append, HLN.out, List.take_of_length_le (by rw [HLN.out]; omega), show 52 + j - 4 * 13 = j by omega] at h1
          rcases dec_head HOK.out (zs.take j) with ⟨hno, _⟩ | ⟨es2, hes2, hk2, hL2, hx2⟩
          · rw [hms] at hno; cases hno
          · have : es2 = ms := by rw [hms] at hes2; exact (Option.some.inj hes2).symm
            subst this
            have := got_s hkb (Nat.le_refl _) (fun z hz => by rcases List.mem_append.1 hz with q | q; exact HLT.out z q; exact HZ.out z (List.mem_of_mem_take q)) (by rw [List.length_append, HLN.out, List.length_take]; have := HL.out; omega)
            rw [HHD.out] at this
            rw [hk2, hL2] at this
            exact this.mono fun _ _ h => h.cfg (fun i hi => hx2 i hi))
        have HLE : Hid (es.length ≤ 1000000) := Go.Lib.hid (by have := decP_le (Nat.zero_le _) hes; omega)
        have hml : ms.length ≤ es.length := by rw [hcs, List.length_append]; omega
        have HMT : Hid (es.take ms.length = ms) := Go.Lib.hid (by rw [hcs, List.take_left])
        have hmod : ((cut : Int) % ((zs.length : Int) + 1)) = (j : Int) := by rw [hj]; norm_cast
        have HJ := Go.Lib.hid hj
        have HM4 := Go.Lib.hid hml
        have HJL := Go.Lib.hid hjl
        clear hk hes hL hx hms hcs hj
        refine HS.out.mono ?_
        rintro e w5 ⟨v5, rfl, hke5, hb5⟩
        obtain ⟨p5, c5, rfl⟩ := KE.form hke5
        have hc5 : es.length ≤ c5 := hke5.cap _ _ _ rfl
        have hb6 : Below w5.heap.size w5 (w5.alloc (.cells #[.int .i64 (x 0), .int .i64 (x 1), .int .i64 (x 2), .int .i64 (x 3), .int .i64 (x 4), .int .i64 (x 5), .int .i64 (x 6), .int .i64 (x 7), .int .i64 (x 8), .int .i64 (x 9), .int .i64 (x 10), .int .i64 (x 11), .int .i64 (x 12)] 29)) := (Below.refl _ _).alloc (Nat.le_refl _) _
        have HK6 := Go.Lib.hid ((KEs.of hke5).below hb6)
        have HB6 := Go.Lib.hid ((Below.refl w4.heap.size w4).trans ((hb5.trans (hb6.mono hb5.size))))
        have HX6 := Go.Lib.hid (row_below HB6.out HX4.out)
        clear hke5 hb5 hb6 HX4
        have b1 : (0 : Int) ≤ (j : Int) := by omega
        have b2 : (j : Int) ≤ (zs.length : Int) := by omega
        have b3 : (52 + zs.length : Int) ≤ (c4 : Int) := by omega
        have b4 : (0 : Int) ≤ (cut : Int) := by omega
        have b5 : (cut : Int) < 65536 := by omega
        have b6 : (zs.length : Int) ≤ 400 := by have := HL.out; omega
        go_wp2_with fail
        refine (HS2.out _ HB6.out).mono ?_
        rintro e w7 ⟨v7, rfl, hke7, hb7⟩
        obtain ⟨p7, c7, rfl⟩ := KE.form hke7
        have hb8 : Below w7.heap.size w7 (w7.alloc (.cells #[.int .i64 (x 0), .int .i64 (x 1), .int .i64 (x 2), .int .i64 (x 3), .int .i64 (x 4), .int .i64 (x 5), .int .i64 (x 6), .int .i64 (x 7), .int .i64 (x 8), .int .i64 (x 9), .int .i64 (x 10), .int .i64 (x 11), .int .i64 (x 12)] 29)) := (Below.refl _ _).alloc (Nat.le_refl _) _
        have HK5 := Go.Lib.hid (((HK6.out.below hb7).below hb8).below (Below.refl _ _).drew)
        have HK7 := Go.Lib.hid (((KEs.of hke7).below hb8).below (Below.refl _ _).drew)
        have HQ7 := heap_alloc_new w7 (.cells #[.int .i64 (x 0), .int .i64 (x 1), .int .i64 (x 2), .int .i64 (x 3), .int .i64 (x 4), .int .i64 (x 5), .int .i64 (x 6), .int .i64 (x 7), .int .i64 (x 8), .int .i64 (x 9), .int .i64 (x 10), .int .i64 (x 11), .int .i64 (x 12)] 29)
        have HXX := row_below hb8 (row_below hb7 HX6.out)
        have HB8 := Go.Lib.hid (((HB6.out.trans (hb7.mono HB6.out.size)).trans (hb8.mono (HB6.out.trans (hb7.mono HB6.out.size)).size)).drew)
        clear hke7 hb7 hb8 HB6 HK6 HX6 HS HS2 b1 b2 b3 b4 b5 b6 hmod hjl
        have b7 : (0 : Int) ≤ (ms.length : Int) := by omega
        have b8 : (ms.length : Int) ≤ (es.length : Int) := by omega
        have b9 : (ms.length : Int) ≤ (c5 : Int) := by omega
        go_wp2_with fail
        generalize (w7.alloc (.cells #[.int .i64 (x 0), .int .i64 (x 1), .int .i64 (x 2), .int .i64 (x 3), .int .i64 (x 4), .int .i64 (x 5), .int .i64 (x 6), .int .i64 (x 7), .int .i64 (x 8), .int .i64 (x 9), .int .i64 (x 10), .int .i64 (x 11), .int .i64 (x 12)] 29)) = W8 at *
        generalize w7.heap.size = g7 at *
        have q0 : W8.cell? ⟨g7, 0, none⟩ = some (.int .i64 (x 0)) := cell_of_row _ _ _ _ _ _ HQ7
        have q1 : W8.cell? ⟨g7, 1, none⟩ = some (.int .i64 (x 1)) := cell_of_row _ _ _ _ _ _ HQ7
        have q2 : W8.cell? ⟨g7, 2, none⟩ = some (.int .i64 (x 2)) := cell_of_row _ _ _ _ _ _ HQ7
        have q3 : W8.cell? ⟨g7, 3, none⟩ = some (.int .i64 (x 3)) := cell_of_row _ _ _ _ _ _ HQ7
        have q4 : W8.cell? ⟨g7, 4, none⟩ = some (.int .i64 (x 4)) := cell_of_row _ _ _ _ _ _ HQ7
        have q5 : W8.cell? ⟨g7, 5, none⟩ = some (.int .i64 (x 5)) := cell_of_row _ _ _ _ _ _ HQ7
        have q6 : W8.cell? ⟨g7, 6, none⟩ = some (.int .i64 (x 6)) := cell_of_row _ _ _ _ _ _ HQ7
        have q7 : W8.cell? ⟨g7, 7, none⟩ = some (.int .i64 (x 7)) := cell_of_row _ _ _ _ _ _ HQ7
        have q8 : W8.cell? ⟨g7, 8, none⟩ = some (.int .i64 (x 8)) := cell_of_row _ _ _ _ _ _ HQ7
        have q9 : W8.cell? ⟨g7, 9, none⟩ = some (.int .i64 (x 9)) := cell_of_row _ _ _ _ _ _ HQ7
        have q10 : W8.cell? ⟨g7, 10, none⟩ = some (.int .i64 (x 10)) := cell_of_row _ _ _ _ _ _ HQ7
        have q11 : W8.cell? ⟨g7, 11, none⟩ = some (.int .i64 (x 11)) := cell_of_row _ _ _ _ _ _ HQ7
        have q12 : W8.cell? ⟨g7, 12, none⟩ = some (.int .i64 (x 12)) := cell_of_row _ _ _ _ _ _ HQ7
        have rg : W8.rangeAt w.heap.size 0 [.int .i64 (x 0), .int .i64 (x 1), .int .i64 (x 2), .int .i64 (x 3), .int .i64 (x 4), .int .i64 (x 5), .int .i64 (x 6), .int .i64 (x 7), .int .i64 (x 8), .int .i64 (x 9), .int .i64 (x 10), .int .i64 (x 11), .int .i64 (x 12)] := fun j u hj => by rw [Nat.zero_add, cell_of_row _ _ _ _ _ _ HXX]; simpa using hj
        clear HQ7 HXX
        have hu23 := Tryz.underlying23
        have hi23 : (Tryz.prog.info? 23).map (·.size) = some ([.int .i64 (x 0), .int .i64 (x 1), .int .i64 (x 2), .int .i64 (x 3), .int .i64 (x 4), .int .i64 (x 5), .int .i64 (x 6), .int .i64 (x 7), .int .i64 (x 8), .int .i64 (x 9), .int .i64 (x 10), .int .i64 (x 11), .int .i64 (x 12)] : List Value).length := by kernel_rfl
        have hl23 : ([.int .i64 (x 0), .int .i64 (x 1), .int .i64 (x 2), .int .i64 (x 3), .int .i64 (x 4), .int .i64 (x 5), .int .i64 (x 6), .int .i64 (x 7), .int .i64 (x 8), .int .i64 (x 9), .int .i64 (x 10), .int .i64 (x 11), .int .i64 (x 12)] : List Value).length = 13 := rfl
        have ho23 : ∀ u ∈ ([.int .i64 (x 0), .int .i64 (x 1), .int .i64 (x 2), .int .i64 (x 3), .int .i64 (x 4), .int .i64 (x 5), .int .i64 (x 6), .int .i64 (x 7), .int .i64 (x 8), .int .i64 (x 9), .int .i64 (x 10), .int .i64 (x 11), .int .i64 (x 12)] : List Value), u.oneCell' = true := by intro u hu; simp only [List.mem_cons, List.not_mem_nil, or_false] at hu; rcases hu with rfl | rfl | rfl | rfl | rfl | rfl | rfl | rfl | rfl | rfl | rfl | rfl | rfl <;> rfl
        go_region_held3 (fun w' => w'.cell? ⟨g7, 0, none⟩ = some (.int .i64 (x 0)) ∧ w'.cell? ⟨g7, 1, none⟩ = some (.int .i64 (x 1)) ∧ w'.cell? ⟨g7, 2, none⟩ = some (.int .i64 (x 2)) ∧ w'.cell? ⟨g7, 3, none⟩ = some (.int .i64 (x 3)) ∧ w'.cell? ⟨g7, 4, none⟩ = some (.int .i64 (x 4)) ∧ w'.cell? ⟨g7, 5, none⟩ = some (.int .i64 (x 5)) ∧ w'.cell? ⟨g7, 6, none⟩ = some (.int .i64 (x 6)) ∧ w'.cell? ⟨g7, 7, none⟩ = some (.int .i64 (x 7)) ∧ w'.cell? ⟨g7, 8, none⟩ = some (.int .i64 (x 8)) ∧ w'.cell? ⟨g7, 9, none⟩ = some (.int .i64 (x 9)) ∧ w'.cell? ⟨g7, 10, none⟩ = some (.int .i64 (x 10)) ∧ w'.cell? ⟨g7, 11, none⟩ = some (.int .i64 (x 11)) ∧ w'.cell? ⟨g7, 12, none⟩ = some (.int .i64 (x 12)) ∧ w'.rangeAt w.heap.size 0 [.int .i64 (x 0), .int .i64 (x 1), .int .i64 (x 2), .int .i64 (x 3), .int .i64 (x 4), .int .i64 (x 5), .int .i64 (x 6), .int .i64 (x 7), .int .i64 (x 8), .int .i64 (x 9), .int .i64 (x 10), .int .i64 (x 11), .int .i64 (x 12)])
          (first | exact ⟨q0, q1, q2, q3, q4, q5, q6, q7, q8, q9, q10, q11, q12, rg⟩)
          (first
            | (go_at_call 12; refine (law03_Of x _).mono ?_; rintro e wa ⟨rfl, hb⟩; have q0 := below_cell hb q0; have q1 := below_cell hb q1; have q2 := below_cell hb q2; have q3 := below_cell hb q3; have q4 := below_cell hb q4; have q5 := below_cell hb q5; have q6 := below_cell hb q6; have q7 := below_cell hb q7; have q8 := below_cell hb q8; have q9 := below_cell hb q9; have q10 := below_cell hb q10; have q11 := below_cell hb q11; have q12 := below_cell hb q12; have rg := below_range hb rg; have HK5 := Go.Lib.hid (HK5.out.below hb); have HK7 := Go.Lib.hid (HK7.out.below hb); have HB8 := Go.Lib.hid (HB8.out.trans (hb.mono HB8.out.size)))
            | (go_at_call 14; have hx := HSEEN.out; refine (law22_tos (es := es.take ms.length) (KE.take HK5.out HM4.out) (fun b hb => hb) (by rw [HMT.out]; have := HLE.out; omega)).mono ?_; rintro e wb ⟨v9, rfl, ho, hb⟩; have HK9 := Go.Lib.hid (KEs.of (KE.own ho)); have q0 := below_cell hb q0; have q1 := below_cell hb q1; have q2 := below_cell hb q2; have q3 := below_cell hb q3; have q4 := below_cell hb q4; have q5 := below_cell hb q5; have q6 := below_cell hb q6; have q7 := below_cell hb q7; have q8 := below_cell hb q8; have q9 := below_cell hb q9; have q10 := below_cell hb q10; have q11 := below_cell hb q11; have q12 := below_cell hb q12; have rg := below_range hb rg; have HK8 := Go.Lib.hid (HK8.out.below hb); have HB8 := Go.Lib.hid (HB8.out.trans (hb.mono HB8.out.size)))
            | (go_at_call 14; refine (law22_tos HK7.out (fun b hb => hb) (by have := HLE.out; omega)).mono ?_; rintro e wb ⟨v8, rfl, ho, hb⟩; have HSEEN : Hid True := Go.Lib.hid trivial; have HK8 := Go.Lib.hid (KEs.of (KE.own ho)); have q0 := below_cell hb q0; have q1 := below_cell hb q1; have q2 := below_cell hb q2; have q3 := below_cell hb q3; have q4 := below_cell hb q4; have q5 := below_cell hb q5; have q6 := below_cell hb q6; have q7 := below_cell hb q7; have q8 := below_cell hb q8; have q9 := below_cell hb q9; have q10 := below_cell hb q10; have q11 := below_cell hb q11; have q12 := below_cell hb q12; have rg := below_range hb rg; have HK5 := Go.Lib.hid (HK5.out.below hb); have HB8 := Go.Lib.hid (HB8.out.trans (hb.mono HB8.out.size)))
            | (go_at_call 13; refine (ref22_Same HK8.out (by have := HK9.out; rwa [HMT.out] at this) (by have := HLE.out; omega)).mono ?_; rintro e wc ⟨rfl, hb⟩; have q0 := below_cell hb q0; have q1 := below_cell hb q1; have q2 := below_cell hb q2; have q3 := below_cell hb q3; have q4 := below_cell hb q4; have q5 := below_cell hb q5; have q6 := below_cell hb q6; have q7 := below_cell hb q7; have q8 := below_cell hb q8; have q9 := below_cell hb q9; have q10 := below_cell hb q10; have q11 := below_cell hb q11; have q12 := below_cell hb q12; have rg := below_range hb rg; have HB8 := Go.Lib.hid (HB8.out.trans (hb.mono HB8.out.size))))
        all_goals
          go_wp2
          go_ret
          exact ⟨rfl, HB4.out.trans (HB8.out.mono HB4.out.size)⟩
    · have HRT := Go.Lib.hid (fun W => right_no hok W)
      clear hok
      go_enter Tryz.func5, Tryz.ntmps5
      go_wp2_with fail
      generalize (w.alloc (.cells #[.int .i64 (x 0), .int .i64 (x 1), .int .i64 (x 2), .int .i64 (x 3), .int .i64 (x 4), .int .i64 (x 5), .int .i64 (x 6), .int .i64 (x 7), .int .i64 (x 8), .int .i64 (x 9), .int .i64 (x 10), .int .i64 (x 11), .int .i64 (x 12)] 23)) = W0 at *
      refine (law22_speaks _).mono ?_
      rintro e w1 ⟨rfl, hb1⟩
      have HB1 := Go.Lib.hid (HB0.out.trans (hb1.mono HB0.out.size))
      have hrow := row_below hb1 HX0.out
      have x0 : w1.cell? ⟨w.heap.size, 0, none⟩ = some (.int .i64 (x 0)) := cell_of_row _ _ _ _ _ _ hrow
      have x1 : w1.cell? ⟨w.heap.size, 1, none⟩ = some (.int .i64 (x 1)) := cell_of_row _ _ _ _ _ _ hrow
      have x2 : w1.cell? ⟨w.heap.size, 2, none⟩ = some (.int .i64 (x 2)) := cell_of_row _ _ _ _ _ _ hrow
      have x3 : w1.cell? ⟨w.heap.size, 3, none⟩ = some (.int .i64 (x 3)) := cell_of_row _ _ _ _ _ _ hrow
      have x4 : w1.cell? ⟨w.heap.size, 4, none⟩ = some (.int .i64 (x 4)) := cell_of_row _ _ _ _ _ _ hrow
      have x5 : w1.cell? ⟨w.heap.size, 5, none⟩ = some (.int .i64 (x 5)) := cell_of_row _ _ _ _ _ _ hrow
      have x6 : w1.cell? ⟨w.heap.size, 6, none⟩ = some (.int .i64 (x 6)) := cell_of_row _ _ _ _ _ _ hrow
      have x7 : w1.cell? ⟨w.heap.size, 7, none⟩ = some (.int .i64 (x 7)) := cell_of_row _ _ _ _ _ _ hrow
      have x8 : w1.cell? ⟨w.heap.size, 8, none⟩ = some (.int .i64 (x 8)) := cell_of_row _ _ _ _ _ _ hrow
      have x9 : w1.cell? ⟨w.heap.size, 9, none⟩ = some (.int .i64 (x 9)) := cell_of_row _ _ _ _ _ _ hrow
      have x10 : w1.cell? ⟨w.heap.size, 10, none⟩ = some (.int .i64 (x 10)) := cell_of_row _ _ _ _ _ _ hrow
      have x11 : w1.cell? ⟨w.heap.size, 11, none⟩ = some (.int .i64 (x 11)) := cell_of_row _ _ _ _ _ _ hrow
      have x12 : w1.cell? ⟨w.heap.size, 12, none⟩ = some (.int .i64 (x 12)) := cell_of_row _ _ _ _ _ _ hrow
      have HX1 := Go.Lib.hid hrow
      clear hb1 HX0 HB0 hrow
      go_wp2_with fail
      refine (HRT.out _).mono ?_
      rintro e wr ⟨rfl, hbr⟩
      replace HB1 := Go.Lib.hid (HB1.out.trans (hbr.mono HB1.out.size))
      clear x0 x1 x2 x3 x4 x5 x6 x7 x8 x9 x10 x11 x12
      clear hbr HX1
      go_wp2_with fail
      refine (law22_speaks _).mono ?_
      rintro e w2 ⟨rfl, hb2⟩
      have HB2 := Go.Lib.hid (HB1.out.trans (hb2.mono HB1.out.size))
      clear hb2
      go_wp2
      go_ret
      exact ⟨rfl, HB2.out⟩
  · have hl1 : ((zs.length : Int) > 400) = True := by simp; omega
    have hl2 : ((400 : Int) < (zs.length : Int)) = True := by simp; omega
    generalize zs.length = n at *
    clear h hz hl
    go_enter Tryz.func5, Tryz.ntmps5
    go_wp2_with fail
    generalize (w.alloc (.cells #[.int .i64 (x 0), .int .i64 (x 1), .int .i64 (x 2), .int .i64 (x 3), .int .i64 (x 4), .int .i64 (x 5), .int .i64 (x 6), .int .i64 (x 7), .int .i64 (x 8), .int .i64 (x 9), .int .i64 (x 10), .int .i64 (x 11), .int .i64 (x 12)] 23)) = W0 at *
    refine (law22_speaks _).mono ?_
    rintro e w1 ⟨rfl, hb1⟩
    have HB1 := Go.Lib.hid (HB0.out.trans (hb1.mono HB0.out.size))
    have hrow := row_below hb1 HX0.out
    have x0 : w1.cell? ⟨w.heap.size, 0, none⟩ = some (.int .i64 (x 0)) := cell_of_row _ _ _ _ _ _ hrow
    have x1 : w1.cell? ⟨w.heap.size, 1, none⟩ = some (.int .i64 (x 1)) := cell_of_row _ _ _ _ _ _ hrow
    have x2 : w1.cell? ⟨w.heap.size, 2, none⟩ = some (.int .i64 (x 2)) := cell_of_row _ _ _ _ _ _ hrow
    have x3 : w1.cell? ⟨w.heap.size, 3, none⟩ = some (.int .i64 (x 3)) := cell_of_row _ _ _ _ _ _ hrow
    have x4 : w1.cell? ⟨w.heap.size, 4, none⟩ = some (.int .i64 (x 4)) := cell_of_row _ _ _ _ _ _ hrow
    have x5 : w1.cell? ⟨w.heap.size, 5, none⟩ = some (.int .i64 (x 5)) := cell_of_row _ _ _ _ _ _ hrow
    have x6 : w1.cell? ⟨w.heap.size, 6, none⟩ = some (.int .i64 (x 6)) := cell_of_row _ _ _ _ _ _ hrow
    have x7 : w1.cell? ⟨w.heap.size, 7, none⟩ = some (.int .i64 (x 7)) := cell_of_row _ _ _ _ _ _ hrow
    have x8 : w1.cell? ⟨w.heap.size, 8, none⟩ = some (.int .i64 (x 8)) := cell_of_row _ _ _ _ _ _ hrow
    have x9 : w1.cell? ⟨w.heap.size, 9, none⟩ = some (.int .i64 (x 9)) := cell_of_row _ _ _ _ _ _ hrow
    have x10 : w1.cell? ⟨w.heap.size, 10, none⟩ = some (.int .i64 (x 10)) := cell_of_row _ _ _ _ _ _ hrow
    have x11 : w1.cell? ⟨w.heap.size, 11, none⟩ = some (.int .i64 (x 11)) := cell_of_row _ _ _ _ _ _ hrow
    have x12 : w1.cell? ⟨w.heap.size, 12, none⟩ = some (.int .i64 (x 12)) := cell_of_row _ _ _ _ _ _ hrow
    have HX1 := Go.Lib.hid hrow
    clear hb1 HX0 HB0 hrow
    go_wp2_with fail
    clear x0 x1 x2 x3 x4 x5 x6 x7 x8 x9 x10 x11 x12
    clear HX1
    refine (law22_speaks _).mono ?_
    rintro e w2 ⟨rfl, hb2⟩
    have HB2 := Go.Lib.hid (HB1.out.trans (hb2.mono HB1.out.size))
    clear hb2
    go_wp2
    go_ret
    exact ⟨rfl, HB2.out⟩

end Go.Proofs.YtdemhabgaimnmaaGreatDoor
/- What a row's proof opens: a configuration that came in; facts on the program. -/
namespace Go.Proofs.YtdemhabgaimnmaaGreatDoor
open Go.ChangeShapes Go.WideShapes Go.ChangeAt Go.RowKit
set_option maxRecDepth 100000

theorem prog_own : ownKnob Tryz.prog.godebug = none := by kernel_rfl
theorem prog_laidOut : laidOutB Tryz.prog = true := by kernel_rfl

/-- A configuration that came in is thirteen numbers. -/
theorem config_open {W : World} {r : Reach} {base : Nat} {v : Value} (h : Value.okWide Tryz.prog W r base 23 v) :
    ∃ x : Nat → Int, v = .agg #[.int .i64 (x 0), .int .i64 (x 1), .int .i64 (x 2), .int .i64 (x 3), .int .i64 (x 4), .int .i64 (x 5), .int .i64 (x 6), .int .i64 (x 7), .int .i64 (x 8), .int .i64 (x 9), .int .i64 (x 10), .int .i64 (x 11), .int .i64 (x 12)] := by
  have ht : Tryz.prog.cellTypes Tryz.prog.depth 23 = some (List.replicate 13 3) := by kernel_rfl
  have hn : Tryz.prog.cellsOf 23 = 13 := by kernel_rfl
  simp only [Value.okWide, Tryz.underlying23] at h
  obtain ⟨cs, rfl, hsz, ts, hts, _, hc⟩ := h
  rw [hn] at hsz
  obtain rfl : ts = List.replicate 13 3 := by rw [ht] at hts; exact (Option.some.inj hts).symm
  refine ⟨fun i => intOf (cs.getD i .nilFunc), ?_⟩
  have key : ∀ i, (hi : i < 13) → cs.getD i .nilFunc = .int .i64 (intOf (cs.getD i .nilFunc)) := by
    intro i hi
    have hg : cs[i]? = some (cs.getD i .nilFunc) := by
      rw [Array.getD_eq_getD_getElem?]
      simp [hsz, hi]
    obtain ⟨u, hu, hok⟩ := hc i _ hg
    have hu' : u = 3 := by
      rw [List.getElem?_replicate] at hu
      split at hu
      · exact (Option.some.inj hu).symm
      · cases hu
    subst hu'
    generalize cs.getD i .nilFunc = y at hok ⊢
    unfold Cell.okWide at hok
    simp only [Tryz.underlying3] at hok
    unfold Cell.ok at hok
    simp only [Tryz.underlying3] at hok
    cases y <;> simp_all [intOf]
  have e : cs = Array.ofFn (n := 13) fun i => cs.getD i.val .nilFunc := by
    apply Array.ext
    · simp [hsz]
    · intro i h1 h2
      simp [Array.getD, h1]
  have e2 : cs = Array.ofFn (n := 13) fun i => .int .i64 (intOf (cs.getD i.val .nilFunc)) := by
    conv => lhs; rw [e]
    congr 1
    funext i
    exact key i.val i.isLt
  conv => lhs; rw [e2]
  rfl
end Go.Proofs.YtdemhabgaimnmaaGreatDoor
/- Bytes among a law's arguments. -/
namespace Go.Proofs.YtdemhabgaimnmaaGreatDoor
open Go.ChangeShapes Go.WideShapes Go.ChangeAt Go.RowKit
set_option maxRecDepth 100000

section
variable {H : Type} {enc : TypeId × Value → H} {W : World} {base : Nat} {spare : Nat → Bool} {held : Bool}
theorem spot_none {r : Reach} {b0 : Nat} {t e : TypeId} {a : Addr} {n c : Nat} (ht : Tryz.prog.underlying t = some (.slice e)) (h : Value.okWide Tryz.prog W r b0 t (.slice (some a) n c)) : a.spot = none := by
  simp only [Value.okWide, ht, Cell.okWide, Cell.ok] at h
  exact h.2.2.2.1
theorem bytes_openK {v : Value} {r : Reach} {b0 : Nat} (hv : Value.okWide Tryz.prog W r b0 24 v) {fuel : Nat} {x : DataW H × List MemPlace} (h : DataW.trod enc Tryz.prog W base spare held fuel 24 [v] = some x) :
    ∃ zs : List Nat, KBb W.heap.size W v zs ∧ ∀ z ∈ zs, z < 256 := by
  rcases open_ints Tryz.underlying24 Tryz.underlying5 (by kernel_rfl) h with ⟨hc, _⟩ | ⟨a, len, cap, zs, hc, _, hl, _, hzl, _, hcell, hwf⟩
  · injection hc with hc _
    subst hc
    refine ⟨[], ⟨⟨none, 0, rfl, fun i r hi => by cases hi⟩, fun a n c e hn => absurd rfl hn, fun n c e => (by cases e; rfl), fun p n c e => (by cases e; exact Nat.le_refl _)⟩, fun d hd => by cases hd⟩
  · injection hc with hc _
    subst hc
    have hlm : len ≤ zs.length := by rw [hzl]; split <;> omega
    have hb : ∀ z ∈ zs, 0 ≤ z ∧ z < 256 := fun z hz => by
      have := bounds_u8 (hwf z hz)
      omega
    have hcl : ∀ i, i < len → ∃ z : Nat, ((zs.take len).map Int.toNat)[i]? = some z ∧ W.cell? (a.add i) = some (.int .u8 (z : Int)) := by
      intro i hi
      have hil2 : i < zs.length := by omega
      have hm : zs[i] ∈ zs := List.getElem_mem hil2
      have h0 := hb _ hm
      refine ⟨zs[i].toNat, ?_, ?_⟩
      · rw [List.getElem?_map, List.getElem?_take, if_pos hi, List.getElem?_eq_getElem hil2]; rfl
      · rw [hcell i hil2, List.getD_eq_getElem?_getD, List.getElem?_eq_getElem hil2]
        show some (Value.int .u8 zs[i]) = _
        rw [show ((zs[i].toNat : Nat) : Int) = zs[i] by omega]
    have hla : ((zs.take len).map Int.toNat).length = len := by rw [List.length_map, List.length_take, Nat.min_eq_left hlm]
    obtain ⟨g, off, sp⟩ := a
    obtain rfl : sp = none := spot_none Tryz.underlying24 hv
    have hadd : ∀ i, (⟨g, off, none⟩ : Addr).add i = ⟨g, off + i, none⟩ := by
      intro i
      unfold Addr.add
      split
      · rename_i e; subst e; rfl
      · rfl
    refine ⟨(zs.take len).map Int.toNat, ⟨⟨some ⟨g, off, none⟩, cap, by rw [List.length_map, hla], fun i r hi => ?_⟩, fun a' n c e hn => ?_, fun n c e => (by cases e), fun p n c e => (by cases e; exact hl)⟩, fun z hz => ?_⟩
    · rw [List.getElem?_map] at hi
      have hil : i < len := by
        have : i < ((zs.take len).map Int.toNat).length := by
          rcases Nat.lt_or_ge i ((zs.take len).map Int.toNat).length with q | q
          · exact q
          · rw [List.getElem?_eq_none q] at hi; cases hi
        omega
      obtain ⟨z, h1, h2⟩ := hcl i hil
      rw [h1] at hi
      cases hi
      refine ⟨g, off, rfl, fun j u hj => ?_⟩
      have hj0 : j = 0 := by
        have : j < 1 := (List.getElem?_eq_some_iff.1 hj).1
        omega
      subst hj0
      cases hj
      rw [hadd] at h2
      rwa [Nat.mul_one, Nat.add_zero]
    · cases e
      have h0 : 0 < len := by
        rcases Nat.eq_zero_or_pos len with q | q
        · exact absurd (List.map_eq_nil_iff.2 (List.length_eq_zero_iff.1 (by rw [hla]; exact q))) hn
        · exact q
      obtain ⟨z, h1, h2⟩ := hcl 0 h0
      rw [hadd] at h2
      exact cell_lt h2
    · obtain ⟨z', hz', rfl⟩ := List.mem_map.1 hz
      have := hb _ (List.mem_of_mem_take hz')
      omega
end
end Go.Proofs.YtdemhabgaimnmaaGreatDoor
