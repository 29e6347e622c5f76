/- A run of picks, or of ticks, in one or two bytes. -/
import Derived.Test.YtdemhabgaimnmaaGreatDoorJspm
import Derived.ProofKit
import Derived.OpenShut
import Derived.ChangeSlices
namespace Go.Proofs.YtdemhabgaimnmaaGreatDoor
open Go.RowKit
set_option maxRecDepth 100000
set_option linter.unusedVariables false

theorem u8_or2 (n : Nat) (h : n < 64) : bits .or .u8 ((n * 4 : Nat) : Int) 2 = ((n * 4 + 2 : Nat) : Int) := by
  have : ∀ m : Fin 64, bits .or .u8 ((m.1 * 4 : Nat) : Int) 2 = ((m.1 * 4 + 2 : Nat) : Int) := by decide +kernel
  exact this ⟨n, h⟩
theorem u8_or1 (n : Nat) (h : n < 64) : bits .or .u8 ((n * 4 : Nat) : Int) 1 = ((n * 4 + 1 : Nat) : Int) := by
  have : ∀ m : Fin 64, bits .or .u8 ((m.1 * 4 : Nat) : Int) 1 = ((m.1 * 4 + 1 : Nat) : Int) := by decide +kernel
  exact this ⟨n, h⟩
theorem kb_cells {w : World} {cs : Array Value} {t : TypeId} {l : List Nat} (h : cs.toList = l.map fun (z : Nat) => Value.int .u8 (z : Int)) (hc : l ≠ []) : KBb (w.alloc (.cells cs t)).heap.size (w.alloc (.cells cs t)) (.slice (some ⟨w.heap.size, 0, none⟩) l.length l.length) l := by
  have hn : cs.size = l.length := by rw [← Array.length_toList, h, List.length_map]
  refine ⟨⟨some ⟨w.heap.size, 0, none⟩, l.length, by rw [List.length_map], fun i r hi => ⟨w.heap.size, 0, rfl, fun j u hj => ?_⟩⟩, fun a n c e _ => ?_, fun n c e => (by cases e), fun p n c e => (by cases e; exact Nat.le_refl _)⟩
  · rw [List.getElem?_map] at hi
    cases hz : l[i]? with
    | none => rw [hz] at hi; cases hi
    | some z =>
      rw [hz] at hi
      cases hi
      have hj0 : j = 0 := by
        have : j < 1 := (List.getElem?_eq_some_iff.1 hj).1
        omega
      subst hj0
      cases hj
      rw [cell_of_row _ _ _ _ _ _ (heap_alloc_new w (.cells cs t)), Nat.zero_add, Nat.mul_one, Nat.add_zero, ← Array.getElem?_toList, h, List.getElem?_map, hz]
      rfl
  · cases e
    simp
theorem KBb.keepB {B : Nat} {w w' : World} {v : Value} {l : List Nat} (h : KBb B w v l) (hb : Below B w w') : KBb B w' v l := KB.keep h fun b hk => hb.block b hk
theorem dec_of {x : Nat → Int} (hok : okI x) {r : List Nat} {es : List Ent} (h : decP r [] = some es) : decK (headJ x 13 ++ r) = 0 ∧ decL (headJ x 13 ++ r) = es ∧ ∀ i, i < 13 → decX (headJ x 13 ++ r) i = x i := by
  rcases dec_head hok r with ⟨h0, _⟩ | ⟨es', h0, h1, h2, h3⟩
  · rw [h] at h0; cases h0
  · rw [h] at h0
    cases h0
    exact ⟨h1, h2, h3⟩
theorem got_of {B : Nat} {v : Value} {w : World} {x : Nat → Int} (hok : okI x) {r : List Nat} {es : List Ent} (hp : decP r [] = some es) (h : KBb B w v (headJ x 13 ++ r)) (hB : B ≤ w.heap.size) (hr : ∀ z ∈ r, z < 256) (hm : r.length ≤ 1000000) :
    Calls Tryz.prog 10 #[v] w (DecGot 56 x 0 es w) := by
  obtain ⟨h1, h2, h3⟩ := dec_of hok hp
  have := got_s h hB (fun z hz => by rcases List.mem_append.1 hz with q | q; exact headJ_lt _ _ z q; exact hr z q) (by rw [List.length_append, headJ_len]; omega)
  rw [h1, h2] at this
  exact this.mono fun _ _ h => h.cfg h3

set_option maxHeartbeats 8000000 in
theorem law22_ScriptRepeats (x : Nat → Int) (a1 : Nat) (h1 : a1 < 256) (a2 : Nat) (h2 : a2 < 256) (zs : List Nat) (v : Value) (w : World) (h : KBb w.heap.size w v zs) (hz : ∀ z ∈ zs, z < 256) :
    Calls Tryz.prog 6 #[.agg #[.int .i64 (x 0), .int .i64 (x 1), .int .i64 (x 2), .int .i64 (x 3), .int .i64 (x 4), .int .i64 (x 5), .int .i64 (x 6), .int .i64 (x 7), .int .i64 (x 8), .int .i64 (x 9), .int .i64 (x 10), .int .i64 (x 11), .int .i64 (x 12)], .int .u8 (a1 : Int), .int .u8 (a2 : Int), v] w fun e w' => e = .returned (.bool true) ∧ Below w.heap.size w w' := by
  obtain ⟨p0, q0, rfl, _⟩ := id (KB.form h)
  have hb0 : Below w.heap.size w (w.alloc (.cells #[.int .i64 (x 0), .int .i64 (x 1), .int .i64 (x 2), .int .i64 (x 3), .int .i64 (x 4), .int .i64 (x 5), .int .i64 (x 6), .int .i64 (x 7), .int .i64 (x 8), .int .i64 (x 9), .int .i64 (x 10), .int .i64 (x 11), .int .i64 (x 12)] 23)) := (Below.refl _ _).alloc (Nat.le_refl _) _
  have HB0 := Go.Lib.hid hb0
  have HX0 := Go.Lib.hid (heap_alloc_new w (.cells #[.int .i64 (x 0), .int .i64 (x 1), .int .i64 (x 2), .int .i64 (x 3), .int .i64 (x 4), .int .i64 (x 5), .int .i64 (x 6), .int .i64 (x 7), .int .i64 (x 8), .int .i64 (x 9), .int .i64 (x 10), .int .i64 (x 11), .int .i64 (x 12)] 23))
  clear hb0 h hz
  generalize zs.length = fl at *
  by_cases hok : okI x
  · have HRT := Go.Lib.hid (fun W => right_yes hok W)
    by_cases hl : fl ≤ 40
    · have hl1 : ((fl : Int) > 40) = False := by simp; omega
      have hl2 : ((40 : Int) < (fl : Int)) = False := by simp; omega
      have HEN := Go.Lib.hid (fun W => ref22_Encode_nil x hok W)
      have HOK := Go.Lib.hid hok
      obtain ⟨n, hn⟩ : ∃ n, n = a2 % 64 := ⟨_, rfl⟩
      obtain ⟨k, hk⟩ : ∃ k, k = a1 % 64 := ⟨_, rfl⟩
      have hn64 : n < 64 := by omega
      have hk64 : k < 64 := by omega
      have m1 : ((a1 : Int) % 64) = (k : Int) := by omega
      have m2 : ((a2 : Int) % 64) = (n : Int) := by omega
      clear hok hl hn hk
      go_enter Tryz.func6, Tryz.ntmps6
      go_wp2_with fail
      generalize (w.alloc (.cells #[.int .i64 (x 0), .int .i64 (x 1), .int .i64 (x 2), .int .i64 (x 3), .int .i64 (x 4), .int .i64 (x 5), .int .i64 (x 6), .int .i64 (x 7), .int .i64 (x 8), .int .i64 (x 9), .int .i64 (x 10), .int .i64 (x 11), .int .i64 (x 12)] 23)) = W0 at *
      refine (law22_speaks _).mono ?_
      rintro e w1 ⟨rfl, hb1⟩
      have HB1 := Go.Lib.hid (HB0.out.trans (hb1.mono HB0.out.size))
      have hrow := row_below hb1 HX0.out
      have x0 : w1.cell? ⟨w.heap.size, 0, none⟩ = some (.int .i64 (x 0)) := cell_of_row _ _ _ _ _ _ hrow
      have x1 : w1.cell? ⟨w.heap.size, 1, none⟩ = some (.int .i64 (x 1)) := cell_of_row _ _ _ _ _ _ hrow
      have x2 : w1.cell? ⟨w.heap.size, 2, none⟩ = some (.int .i64 (x 2)) := cell_of_row _ _ _ _ _ _ hrow
      have x3 : w1.cell? ⟨w.heap.size, 3, none⟩ = some (.int .i64 (x 3)) := cell_of_row _ _ _ _ _ _ hrow
      have x4 : w1.cell? ⟨w.heap.size, 4, none⟩ = some (.int .i64 (x 4)) := cell_of_row _ _ _ _ _ _ hrow
      have x5 : w1.cell? ⟨w.heap.size, 5, none⟩ = some (.int .i64 (x 5)) := cell_of_row _ _ _ _ _ _ hrow
      have x6 : w1.cell? ⟨w.heap.size, 6, none⟩ = some (.int .i64 (x 6)) := cell_of_row _ _ _ _ _ _ hrow
      have x7 : w1.cell? ⟨w.heap.size, 7, none⟩ = some (.int .i64 (x 7)) := cell_of_row _ _ _ _ _ _ hrow
      have x8 : w1.cell? ⟨w.heap.size, 8, none⟩ = some (.int .i64 (x 8)) := cell_of_row _ _ _ _ _ _ hrow
      have x9 : w1.cell? ⟨w.heap.size, 9, none⟩ = some (.int .i64 (x 9)) := cell_of_row _ _ _ _ _ _ hrow
      have x10 : w1.cell? ⟨w.heap.size, 10, none⟩ = some (.int .i64 (x 10)) := cell_of_row _ _ _ _ _ _ hrow
      have x11 : w1.cell? ⟨w.heap.size, 11, none⟩ = some (.int .i64 (x 11)) := cell_of_row _ _ _ _ _ _ hrow
      have x12 : w1.cell? ⟨w.heap.size, 12, none⟩ = some (.int .i64 (x 12)) := cell_of_row _ _ _ _ _ _ hrow
      have HX1 := Go.Lib.hid hrow
      clear hb1 HX0 HB0 hrow
      go_wp2_with fail
      refine (HRT.out _).mono ?_
      rintro e wr ⟨rfl, hbr⟩
      have hrow := row_below hbr HX1.out
      replace HB1 := Go.Lib.hid (HB1.out.trans (hbr.mono HB1.out.size))
      clear x0 x1 x2 x3 x4 x5 x6 x7 x8 x9 x10 x11 x12
      have x0 : wr.cell? ⟨w.heap.size, 0, none⟩ = some (.int .i64 (x 0)) := cell_of_row _ _ _ _ _ _ hrow
      have x1 : wr.cell? ⟨w.heap.size, 1, none⟩ = some (.int .i64 (x 1)) := cell_of_row _ _ _ _ _ _ hrow
      have x2 : wr.cell? ⟨w.heap.size, 2, none⟩ = some (.int .i64 (x 2)) := cell_of_row _ _ _ _ _ _ hrow
      have x3 : wr.cell? ⟨w.heap.size, 3, none⟩ = some (.int .i64 (x 3)) := cell_of_row _ _ _ _ _ _ hrow
      have x4 : wr.cell? ⟨w.heap.size, 4, none⟩ = some (.int .i64 (x 4)) := cell_of_row _ _ _ _ _ _ hrow
      have x5 : wr.cell? ⟨w.heap.size, 5, none⟩ = some (.int .i64 (x 5)) := cell_of_row _ _ _ _ _ _ hrow
      have x6 : wr.cell? ⟨w.heap.size, 6, none⟩ = some (.int .i64 (x 6)) := cell_of_row _ _ _ _ _ _ hrow
      have x7 : wr.cell? ⟨w.heap.size, 7, none⟩ = some (.int .i64 (x 7)) := cell_of_row _ _ _ _ _ _ hrow
      have x8 : wr.cell? ⟨w.heap.size, 8, none⟩ = some (.int .i64 (x 8)) := cell_of_row _ _ _ _ _ _ hrow
      have x9 : wr.cell? ⟨w.heap.size, 9, none⟩ = some (.int .i64 (x 9)) := cell_of_row _ _ _ _ _ _ hrow
      have x10 : wr.cell? ⟨w.heap.size, 10, none⟩ = some (.int .i64 (x 10)) := cell_of_row _ _ _ _ _ _ hrow
      have x11 : wr.cell? ⟨w.heap.size, 11, none⟩ = some (.int .i64 (x 11)) := cell_of_row _ _ _ _ _ _ hrow
      have x12 : wr.cell? ⟨w.heap.size, 12, none⟩ = some (.int .i64 (x 12)) := cell_of_row _ _ _ _ _ _ hrow
      have HXR := Go.Lib.hid hrow
      clear hrow hbr HX1 HRT
      go_wp2_with fail
      clear x0 x1 x2 x3 x4 x5 x6 x7 x8 x9 x10 x11 x12
      refine (HEN.out _).mono ?_
      rintro e w2 ⟨v2, rfl, ho2, hb2⟩
      obtain ⟨a2', q2, rfl⟩ := own_form ho2
      have HB2 := Go.Lib.hid (HB1.out.trans (hb2.mono HB1.out.size))
      have HLN := Go.Lib.hid (headJ_len x 13)
      have HLT := Go.Lib.hid (headJ_lt x 13)
      obtain ⟨hd, hhd⟩ : ∃ hd, hd = headJ x 13 := ⟨_, rfl⟩
      have HHD := Go.Lib.hid hhd
      rw [← hhd] at ho2 HLN HLT ⊢
      have HKH := Go.Lib.hid (KBb.own ho2)
      clear ho2 hb2 HB1 HEN HXR hhd h1 h2
      obtain ⟨s0, hs0⟩ : ∃ s, s = n * 4 := ⟨_, rfl⟩
      obtain ⟨s2, hs2⟩ : ∃ s, s = n * 4 + 2 := ⟨_, rfl⟩
      obtain ⟨t0, ht0⟩ : ∃ s, s = k * 4 := ⟨_, rfl⟩
      obtain ⟨s1, hs1⟩ : ∃ s, s = k * 4 + 1 := ⟨_, rfl⟩
      have f1 : ((n : Int) * 4) = (s0 : Int) := by omega
      have f2 : bits .or .u8 (s0 : Int) 2 = (s2 : Int) := by rw [hs0, hs2]; exact u8_or2 n hn64
      have f3 : ((k : Int) * 4) = (t0 : Int) := by omega
      have f4 : bits .or .u8 (t0 : Int) 1 = (s1 : Int) := by rw [ht0, hs1]; exact u8_or1 k hk64
      have l1 : s0 < 256 := by omega
      have l2 : s2 < 256 := by omega
      have l3 : t0 < 256 := by omega
      have l4 : s1 < 256 := by omega
      obtain ⟨es, hes⟩ : ∃ es, es = List.replicate (n + 1) (pickE k) ++ List.replicate (n + 1) tickE := ⟨_, rfl⟩
      have HP1 : Hid (decP [s2, k, s0] [] = some es) := Go.Lib.hid (by rw [hs2, hs0, hes]; exact decP_short n k hn64 hk64)
      have HP2 : Hid (decP (List.replicate (n + 1) s1 ++ List.replicate (n + 1) 0) [] = some es) := Go.Lib.hid (by rw [hs1, hes]; exact decP_long n k hn64)
      have hel : es.length = 2 * n + 2 := by rw [hes, List.length_append, List.length_replicate, List.length_replicate]; omega
      have HEL := Go.Lib.hid hel
      have g1 : (es.length : Int) = 2 * (n : Int) + 2 := by omega
      clear hs0 hs2 ht0 hs1 hes hel
      have hb3 : Below w2.heap.size w2 (w2.alloc (.cells #[] 5)) := (Below.refl _ _).alloc (Nat.le_refl _) _
      have HO3 := Go.Lib.hid (own_empty w2 5 1)
      have HK3 := Go.Lib.hid (HKH.out.keepB hb3)
      have HT3 := Go.Lib.hid ((OntoT.refl w2.heap.size 5 w2).alloc (Nat.le_refl _) (.cells #[] 5))
      have hz3 : w2.heap.size ≤ (w2.alloc (.cells #[] 5)).heap.size := hb3.size
      clear hb3
      go_wp2_with (first
        | (at_builtin; refine wpList_append_kb rfl (.tmp 43) (.tmp 44) rfl w2.heap.size _ [] rfl HO3.out _ _ hd rfl HK3.out (by rw [HLN.out]; decide) hz3 ?_; intro v4 w4 hown4 hto4; have HO4 : Hid (w4.ownsRow w2.heap.size 5 1 v4 hd.length (hd.map fun (z : Nat) => Value.int .u8 (z : Int))) := Go.Lib.hid hown4; have HT4 := Go.Lib.hid (HT3.out.trans hto4); have hz4 : w2.heap.size ≤ w4.heap.size := HT4.out.below.size; have HT5 := Go.Lib.hid (HT4.out.alloc hz4 (.cells #[.int .u8 (s2 : Int), .int .u8 (k : Int), .int .u8 (s0 : Int)] 5)); have HO5 := Go.Lib.hid (HO4.out.alloc (.cells #[.int .u8 (s2 : Int), .int .u8 (k : Int), .int .u8 (s0 : Int)] 5)); have HK5 := Go.Lib.hid (kb_cells (w := w4) (cs := #[.int .u8 (s2 : Int), .int .u8 (k : Int), .int .u8 (s0 : Int)]) (t := 5) (l := [s2, k, s0]) rfl (by simp)); have hz5 := HT5.out.below.size; clear hown4 hto4 HO3 HT3 HT4 HO4)
        | (at_builtin; refine wpList_append_kb rfl (.tmp 45) (.tmp 52) rfl w2.heap.size _ hd rfl HO5.out _ _ [s2, k, s0] rfl HK5.out (by rw [HLN.out]; show 4 * 13 + 3 ≤ 1000000; decide) hz5 ?_; intro v6 w6 hown6 hto6; have HS6 : Hid (KBb w6.heap.size w6 v6 (hd ++ [s2, k, s0])) := Go.Lib.hid (KBb.own hown6); have HTA := Go.Lib.hid (HT5.out.trans hto6); have HK6 := Go.Lib.hid (HKH.out.keepB HTA.out.below); have hb7 : Below w6.heap.size w6 (w6.alloc (.cells #[] 5)) := (Below.refl _ _).alloc (Nat.le_refl _) _; have HO7 := Go.Lib.hid (own_empty w6 5 1); have HK7 := Go.Lib.hid (HK6.out.keepB (hb7.mono HTA.out.below.size)); have HT7 := Go.Lib.hid ((OntoT.refl w6.heap.size 5 w6).alloc (Nat.le_refl _) (.cells #[] 5)); have hz7 : w6.heap.size ≤ (w6.alloc (.cells #[] 5)).heap.size := hb7.size; clear hown6 hto6 hb7 HK6 HO5 HT5 HK5)
        | (at_builtin; refine wpList_append_kb rfl (.tmp 54) (.tmp 55) rfl w6.heap.size _ [] rfl HO7.out _ _ hd rfl HK7.out (by rw [HLN.out]; decide) hz7 ?_; intro v8 w8 hown8 hto8; have HO8 : Hid (w8.ownsRow w6.heap.size 5 1 v8 hd.length (hd.map fun (z : Nat) => Value.int .u8 (z : Int))) := Go.Lib.hid hown8; have HT8 := Go.Lib.hid (HT7.out.trans hto8); clear hown8 hto8 HO7 HT7 HK7)
        | fail)
      have HPL : Hid (hd.length ≤ 60) := Go.Lib.hid (by rw [HLN.out]; decide)
      go_loopw [14, 60] (fun u14 uc wr => ∃ j : Nat, uc = .int .i64 (j : Nat) ∧ j ≤ n + 1 ∧ wr.ownsRow w6.heap.size 5 1 u14 (hd ++ List.replicate j s1).length ((hd ++ List.replicate j s1).map fun (z : Nat) => Value.int .u8 (z : Int)) ∧ OntoT w6.heap.size 5 w6 wr) (fun _ i _ => n + 1 - (intOf i).toNat)
      case atStart => exact ⟨0, rfl, Nat.zero_le _, by rw [List.replicate_zero, List.append_nil]; exact HO8.out, HT8.out⟩
      case round =>
        obtain ⟨j, rfl, hj, hown, hto⟩ := hrel
        obtain ⟨a14, q14, rfl⟩ := own_form hown
        have HOW := Go.Lib.hid hown
        have HTO := Go.Lib.hid hto
        have hsz : w6.heap.size ≤ wr.heap.size := hto.below.size
        clear hown hto
        by_cases hlt : j < n + 1
        · have b1 : (j : Int) < (n : Int) + 1 := by omega
          have HNW := Go.Lib.hid (kb_cells (w := wr) (cs := #[.int .u8 ((s1 : Nat) : Int)]) (t := 5) (l := [s1]) rfl (by simp))
          have HTA := Go.Lib.hid (HTO.out.alloc hsz (.cells #[.int .u8 ((s1 : Nat) : Int)] 5))
          have HOA := Go.Lib.hid (HOW.out.alloc (.cells #[.int .u8 ((s1 : Nat) : Int)] 5))
          have hsa : w6.heap.size ≤ (wr.alloc (.cells #[.int .u8 ((s1 : Nat) : Int)] 5)).heap.size := by rw [World.size_alloc]; omega
          have HLE : Hid ((hd ++ List.replicate j s1).length ≤ 1000) := Go.Lib.hid (by rw [List.length_append, List.length_replicate]; have := HPL.out; omega)
          have HNX : Hid (hd ++ List.replicate (j + 1) s1 = (hd ++ List.replicate j s1) ++ [s1]) := Go.Lib.hid (by rw [show List.replicate (j + 1) s1 = List.replicate j s1 ++ [s1] from List.replicate_succ']; exact (List.append_assoc _ _ _).symm)
          clear HTO HOW
          go_wp2_with (first
            | (at_builtin; refine wpList_append_kb rfl _ _ rfl w6.heap.size _ (hd ++ List.replicate j s1) rfl HOA.out _ _ [s1] rfl HNW.out (by have := HLE.out; simp only [List.length_singleton]; omega) hsa ?_; intro v9 w9 hown9 hto9; have HO9 := Go.Lib.hid hown9; have HT9 := Go.Lib.hid (HTA.out.trans hto9); clear hown9 hto9)
            | fail)
          go_roundw
          case rel => exact ⟨j + 1, by go_num, by omega, by rw [HNX.out]; exact HO9.out, HT9.out⟩
          case measure => simp [intOf]; omega
        · have hjn : j = n + 1 := by omega
          subst hjn
          rw [show ((((n + 1 : Nat)) : Int)) = (n : Int) + 1 from by omega]
          have b2 : (((n : Int) + 1) < (n : Int) + 1) = False := by simp
          replace HO8 := HOW
          replace HT8 := HTO
          clear HOW HTO
          replace HPL : Hid ((hd ++ List.replicate (n + 1) s1).length ≤ 200) := Go.Lib.hid (by rw [List.length_append, List.length_replicate, HLN.out]; omega)
          go_wp2
          clear b2
          go_loopw [14, 72] (fun u14 uc wr => ∃ j : Nat, uc = .int .i64 (j : Nat) ∧ j ≤ n + 1 ∧ wr.ownsRow w6.heap.size 5 1 u14 (hd ++ List.replicate (n + 1) s1 ++ List.replicate j 0).length ((hd ++ List.replicate (n + 1) s1 ++ List.replicate j 0).map fun (z : Nat) => Value.int .u8 (z : Int)) ∧ OntoT w6.heap.size 5 w6 wr) (fun _ i _ => n + 1 - (intOf i).toNat)
          case atStart => exact ⟨0, rfl, Nat.zero_le _, by rw [List.replicate_zero, List.append_nil]; exact HO8.out, HT8.out⟩
          case round =>
            obtain ⟨j, rfl, hj, hown, hto⟩ := hrel
            obtain ⟨a14, q14, rfl⟩ := own_form hown
            have HOW := Go.Lib.hid hown
            have HTO := Go.Lib.hid hto
            have hsz : w6.heap.size ≤ wr.heap.size := hto.below.size
            clear hown hto
            by_cases hlt : j < n + 1
            · have b1 : (j : Int) < (n : Int) + 1 := by omega
              have HNW := Go.Lib.hid (kb_cells (w := wr) (cs := #[.int .u8 0]) (t := 5) (l := [0]) rfl (by simp))
              have HTA := Go.Lib.hid (HTO.out.alloc hsz (.cells #[.int .u8 0] 5))
              have HOA := Go.Lib.hid (HOW.out.alloc (.cells #[.int .u8 0] 5))
              have hsa : w6.heap.size ≤ (wr.alloc (.cells #[.int .u8 0] 5)).heap.size := by rw [World.size_alloc]; omega
              have HLE : Hid ((hd ++ List.replicate (n + 1) s1 ++ List.replicate j 0).length ≤ 1000) := Go.Lib.hid (by rw [List.length_append, List.length_replicate]; have := HPL.out; omega)
              have HNX : Hid (hd ++ List.replicate (n + 1) s1 ++ List.replicate (j + 1) 0 = (hd ++ List.replicate (n + 1) s1 ++ List.replicate j 0) ++ [0]) := Go.Lib.hid (by rw [show List.replicate (j + 1) 0 = List.replicate j 0 ++ [0] from List.replicate_succ']; exact (List.append_assoc _ _ _).symm)
              clear HTO HOW
              go_wp2_with (first
                | (at_builtin; refine wpList_append_kb rfl _ _ rfl w6.heap.size _ (hd ++ List.replicate (n + 1) s1 ++ List.replicate j 0) rfl HOA.out _ _ [0] rfl HNW.out (by have := HLE.out; simp only [List.length_singleton]; omega) hsa ?_; intro v9 w9 hown9 hto9; have HO9 := Go.Lib.hid hown9; have HT9 := Go.Lib.hid (HTA.out.trans hto9); clear hown9 hto9)
                | fail)
              go_roundw
              case rel => exact ⟨j + 1, by go_num, by omega, by rw [HNX.out]; exact HO9.out, HT9.out⟩
              case measure => simp [intOf]; omega
            · have hjn : j = n + 1 := by omega
              subst hjn
              rw [show ((((n + 1 : Nat)) : Int)) = (n : Int) + 1 from by omega]
              have b2 : (((n : Int) + 1) < (n : Int) + 1) = False := by simp
              replace HO8 := HOW
              replace HT8 := HTO
              clear HOW HTO
              have HLK : Hid (KBb wr.heap.size wr (.slice a14 (hd ++ List.replicate (n + 1) s1 ++ List.replicate (n + 1) 0).length q14) (headJ x 13 ++ (List.replicate (n + 1) s1 ++ List.replicate (n + 1) 0))) := Go.Lib.hid (by rw [← HHD.out, ← List.append_assoc]; exact KBb.own HO8.out)
              generalize (hd ++ List.replicate (n + 1) s1 ++ List.replicate (n + 1) 0).length = n14 at *
              have HSK : Hid (KBb w6.heap.size wr v6 (headJ x 13 ++ [s2, k, s0])) := Go.Lib.hid (by rw [← HHD.out]; exact HS6.out.keepB HT8.out.below)
              have HDS := Go.Lib.hid (got_of HOK.out HP1.out HSK.out HT8.out.below.size (fun z hz => by simp at hz; omega) (by show 3 ≤ 1000000; decide))
              have HDL : Hid (∀ W, Below wr.heap.size wr W → Calls Tryz.prog 10 #[.slice a14 n14 q14] W (DecGot 56 x 0 es W)) := Go.Lib.hid (fun W hb => got_of HOK.out HP2.out (HLK.out.go hb) (Nat.le_refl _) (fun z hz => by
                rcases List.mem_append.1 hz with q | q
                · rw [(List.mem_replicate.1 q).2]; exact l4
                · rw [(List.mem_replicate.1 q).2]; decide) (by rw [List.length_append, List.length_replicate, List.length_replicate]; omega))
              have HBB := Go.Lib.hid (HB2.out.trans ((HTA.out.below.mono HB2.out.size).trans (HT8.out.below.mono (Nat.le_trans HB2.out.size HTA.out.below.size))))
              clear HO8 HT8 HTA HS6 HLK HSK HB2 HPL HP1 HP2 HLT HLN HHD HKH
              go_wp2_with fail
              refine HDS.out.mono ?_
              rintro e wa ⟨v9, rfl, hke9, hb9⟩
              obtain ⟨p9, c9, rfl⟩ := KE.form hke9
              have hb10 : Below wa.heap.size wa (wa.alloc (.cells #[.int .i64 (x 0), .int .i64 (x 1), .int .i64 (x 2), .int .i64 (x 3), .int .i64 (x 4), .int .i64 (x 5), .int .i64 (x 6), .int .i64 (x 7), .int .i64 (x 8), .int .i64 (x 9), .int .i64 (x 10), .int .i64 (x 11), .int .i64 (x 12)] 29)) := (Below.refl _ _).alloc (Nat.le_refl _) _
              have HK9 := Go.Lib.hid ((KEs.of hke9).below hb10)
              have HB9 := Go.Lib.hid (hb9.trans (hb10.mono hb9.size))
              clear hke9 hb9 hb10 HDS
              go_wp2_with fail
              generalize (wa.alloc (.cells #[.int .i64 (x 0), .int .i64 (x 1), .int .i64 (x 2), .int .i64 (x 3), .int .i64 (x 4), .int .i64 (x 5), .int .i64 (x 6), .int .i64 (x 7), .int .i64 (x 8), .int .i64 (x 9), .int .i64 (x 10), .int .i64 (x 11), .int .i64 (x 12)] 29)) = W10 at *
              refine (HDL.out _ HB9.out).mono ?_
              rintro e wc ⟨v11, rfl, hke11, hb11⟩
              obtain ⟨p11, c11, rfl⟩ := KE.form hke11
              have hb12 : Below wc.heap.size wc (wc.alloc (.cells #[.int .i64 (x 0), .int .i64 (x 1), .int .i64 (x 2), .int .i64 (x 3), .int .i64 (x 4), .int .i64 (x 5), .int .i64 (x 6), .int .i64 (x 7), .int .i64 (x 8), .int .i64 (x 9), .int .i64 (x 10), .int .i64 (x 11), .int .i64 (x 12)] 29)) := (Below.refl _ _).alloc (Nat.le_refl _) _
              have HK11 := Go.Lib.hid ((KEs.of hke11).below hb12)
              replace HK9 := Go.Lib.hid ((HK9.out.below hb11).below hb12)
              replace HB9 := Go.Lib.hid ((HB9.out.trans (hb11.mono HB9.out.size)).trans (hb12.mono (HB9.out.trans (hb11.mono HB9.out.size)).size))
              clear hke11 hb11 hb12 HDL
              go_wp2_with fail
              generalize (wc.alloc (.cells #[.int .i64 (x 0), .int .i64 (x 1), .int .i64 (x 2), .int .i64 (x 3), .int .i64 (x 4), .int .i64 (x 5), .int .i64 (x 6), .int .i64 (x 7), .int .i64 (x 8), .int .i64 (x 9), .int .i64 (x 10), .int .i64 (x 11), .int .i64 (x 12)] 29)) = W12 at *
              refine (law22_tos HK9.out (fun b hb => hb) (by have := HEL.out; omega)).mono ?_
              rintro e wd ⟨v13, rfl, ho13, hb13⟩
              have HK13 := Go.Lib.hid (KEs.of (KE.own ho13))
              replace HK11 := Go.Lib.hid (HK11.out.below hb13)
              replace HB9 := Go.Lib.hid (HB9.out.trans (hb13.mono HB9.out.size))
              clear ho13 hb13
              go_wp2_with fail
              refine (law22_tos HK11.out (fun b hb => hb) (by have := HEL.out; omega)).mono ?_
              rintro e we ⟨v14, rfl, ho14, hb14⟩
              have HK14 := Go.Lib.hid (KEs.of (KE.own ho14))
              replace HK13 := Go.Lib.hid (HK13.out.below hb14)
              replace HB9 := Go.Lib.hid (HB9.out.trans (hb14.mono HB9.out.size))
              clear ho14 hb14
              go_wp2_with fail
              refine (ref22_Same HK13.out HK14.out (by have := HEL.out; omega)).mono ?_
              rintro e wf ⟨rfl, hb15⟩
              replace HB9 := Go.Lib.hid (HB9.out.trans (hb15.mono HB9.out.size))
              clear hb15
              go_wp2
              go_ret
              exact ⟨rfl, HBB.out.trans (HB9.out.mono HBB.out.size)⟩
    · have hl1 : ((fl : Int) > 40) = True := by simp; omega
      have hl2 : ((40 : Int) < (fl : Int)) = True := by simp; omega
      clear hok hl
      go_enter Tryz.func6, Tryz.ntmps6
      go_wp2_with fail
      generalize (w.alloc (.cells #[.int .i64 (x 0), .int .i64 (x 1), .int .i64 (x 2), .int .i64 (x 3), .int .i64 (x 4), .int .i64 (x 5), .int .i64 (x 6), .int .i64 (x 7), .int .i64 (x 8), .int .i64 (x 9), .int .i64 (x 10), .int .i64 (x 11), .int .i64 (x 12)] 23)) = W0 at *
      refine (law22_speaks _).mono ?_
      rintro e w1 ⟨rfl, hb1⟩
      have HB1 := Go.Lib.hid (HB0.out.trans (hb1.mono HB0.out.size))
      have hrow := row_below hb1 HX0.out
      have x0 : w1.cell? ⟨w.heap.size, 0, none⟩ = some (.int .i64 (x 0)) := cell_of_row _ _ _ _ _ _ hrow
      have x1 : w1.cell? ⟨w.heap.size, 1, none⟩ = some (.int .i64 (x 1)) := cell_of_row _ _ _ _ _ _ hrow
      have x2 : w1.cell? ⟨w.heap.size, 2, none⟩ = some (.int .i64 (x 2)) := cell_of_row _ _ _ _ _ _ hrow
      have x3 : w1.cell? ⟨w.heap.size, 3, none⟩ = some (.int .i64 (x 3)) := cell_of_row _ _ _ _ _ _ hrow
      have x4 : w1.cell? ⟨w.heap.size, 4, none⟩ = some (.int .i64 (x 4)) := cell_of_row _ _ _ _ _ _ hrow
      have x5 : w1.cell? ⟨w.heap.size, 5, none⟩ = some (.int .i64 (x 5)) := cell_of_row _ _ _ _ _ _ hrow
      have x6 : w1.cell? ⟨w.heap.size, 6, none⟩ = some (.int .i64 (x 6)) := cell_of_row _ _ _ _ _ _ hrow
      have x7 : w1.cell? ⟨w.heap.size, 7, none⟩ = some (.int .i64 (x 7)) := cell_of_row _ _ _ _ _ _ hrow
      have x8 : w1.cell? ⟨w.heap.size, 8, none⟩ = some (.int .i64 (x 8)) := cell_of_row _ _ _ _ _ _ hrow
      have x9 : w1.cell? ⟨w.heap.size, 9, none⟩ = some (.int .i64 (x 9)) := cell_of_row _ _ _ _ _ _ hrow
      have x10 : w1.cell? ⟨w.heap.size, 10, none⟩ = some (.int .i64 (x 10)) := cell_of_row _ _ _ _ _ _ hrow
      have x11 : w1.cell? ⟨w.heap.size, 11, none⟩ = some (.int .i64 (x 11)) := cell_of_row _ _ _ _ _ _ hrow
      have x12 : w1.cell? ⟨w.heap.size, 12, none⟩ = some (.int .i64 (x 12)) := cell_of_row _ _ _ _ _ _ hrow
      have HX1 := Go.Lib.hid hrow
      clear hb1 HX0 HB0 hrow
      go_wp2_with fail
      refine (HRT.out _).mono ?_
      rintro e wr ⟨rfl, hbr⟩
      have hrow := row_below hbr HX1.out
      replace HB1 := Go.Lib.hid (HB1.out.trans (hbr.mono HB1.out.size))
      clear x0 x1 x2 x3 x4 x5 x6 x7 x8 x9 x10 x11 x12
      clear hbr HX1 hrow
      go_wp2_with fail
      refine (law22_speaks _).mono ?_
      rintro e w2 ⟨rfl, hb2⟩
      have HB2 := Go.Lib.hid (HB1.out.trans (hb2.mono HB1.out.size))
      clear hb2
      go_wp2
      go_ret
      exact ⟨rfl, HB2.out⟩
  · have HRT := Go.Lib.hid (fun W => right_no hok W)
    clear hok
    go_enter Tryz.func6, Tryz.ntmps6
    go_wp2_with fail
    generalize (w.alloc (.cells #[.int .i64 (x 0), .int .i64 (x 1), .int .i64 (x 2), .int .i64 (x 3), .int .i64 (x 4), .int .i64 (x 5), .int .i64 (x 6), .int .i64 (x 7), .int .i64 (x 8), .int .i64 (x 9), .int .i64 (x 10), .int .i64 (x 11), .int .i64 (x 12)] 23)) = W0 at *
    refine (law22_speaks _).mono ?_
    rintro e w1 ⟨rfl, hb1⟩
    have HB1 := Go.Lib.hid (HB0.out.trans (hb1.mono HB0.out.size))
    have hrow := row_below hb1 HX0.out
    have x0 : w1.cell? ⟨w.heap.size, 0, none⟩ = some (.int .i64 (x 0)) := cell_of_row _ _ _ _ _ _ hrow
    have x1 : w1.cell? ⟨w.heap.size, 1, none⟩ = some (.int .i64 (x 1)) := cell_of_row _ _ _ _ _ _ hrow
    have x2 : w1.cell? ⟨w.heap.size, 2, none⟩ = some (.int .i64 (x 2)) := cell_of_row _ _ _ _ _ _ hrow
    have x3 : w1.cell? ⟨w.heap.size, 3, none⟩ = some (.int .i64 (x 3)) := cell_of_row _ _ _ _ _ _ hrow
    have x4 : w1.cell? ⟨w.heap.size, 4, none⟩ = some (.int .i64 (x 4)) := cell_of_row _ _ _ _ _ _ hrow
    have x5 : w1.cell? ⟨w.heap.size, 5, none⟩ = some (.int .i64 (x 5)) := cell_of_row _ _ _ _ _ _ hrow
    have x6 : w1.cell? ⟨w.heap.size, 6, none⟩ = some (.int .i64 (x 6)) := cell_of_row _ _ _ _ _ _ hrow
    have x7 : w1.cell? ⟨w.heap.size, 7, none⟩ = some (.int .i64 (x 7)) := cell_of_row _ _ _ _ _ _ hrow
    have x8 : w1.cell? ⟨w.heap.size, 8, none⟩ = some (.int .i64 (x 8)) := cell_of_row _ _ _ _ _ _ hrow
    have x9 : w1.cell? ⟨w.heap.size, 9, none⟩ = some (.int .i64 (x 9)) := cell_of_row _ _ _ _ _ _ hrow
    have x10 : w1.cell? ⟨w.heap.size, 10, none⟩ = some (.int .i64 (x 10)) := cell_of_row _ _ _ _ _ _ hrow
    have x11 : w1.cell? ⟨w.heap.size, 11, none⟩ = some (.int .i64 (x 11)) := cell_of_row _ _ _ _ _ _ hrow
    have x12 : w1.cell? ⟨w.heap.size, 12, none⟩ = some (.int .i64 (x 12)) := cell_of_row _ _ _ _ _ _ hrow
    have HX1 := Go.Lib.hid hrow
    clear hb1 HX0 HB0 hrow
    go_wp2_with fail
    refine (HRT.out _).mono ?_
    rintro e wr ⟨rfl, hbr⟩
    have hrow := row_below hbr HX1.out
    replace HB1 := Go.Lib.hid (HB1.out.trans (hbr.mono HB1.out.size))
    clear x0 x1 x2 x3 x4 x5 x6 x7 x8 x9 x10 x11 x12
    clear hbr HX1 hrow
    go_wp2_with fail
    refine (law22_speaks _).mono ?_
    rintro e w2 ⟨rfl, hb2⟩
    have HB2 := Go.Lib.hid (HB1.out.trans (hb2.mono HB1.out.size))
    clear hb2
    go_wp2
    go_ret
    exact ⟨rfl, HB2.out⟩

end Go.Proofs.YtdemhabgaimnmaaGreatDoor
/- What a row's proof opens: a configuration that came in; facts on the program. -/
namespace Go.Proofs.YtdemhabgaimnmaaGreatDoor
open Go.ChangeShapes Go.WideShapes Go.ChangeAt Go.RowKit
set_option maxRecDepth 100000

theorem prog_own : ownKnob Tryz.prog.godebug = none := by kernel_rfl
theorem prog_laidOut : laidOutB Tryz.prog = true := by kernel_rfl

/-- A configuration that came in is thirteen numbers. -/
theorem config_open {W : World} {r : Reach} {base : Nat} {v : Value} (h : Value.okWide Tryz.prog W r base 23 v) :
    ∃ x : Nat → Int, v = .agg #[.int .i64 (x 0), .int .i64 (x 1), .int .i64 (x 2), .int .i64 (x 3), .int .i64 (x 4), .int .i64 (x 5), .int .i64 (x 6), .int .i64 (x 7), .int .i64 (x 8), .int .i64 (x 9), .int .i64 (x 10), .int .i64 (x 11), .int .i64 (x 12)] := by
  have ht : Tryz.prog.cellTypes Tryz.prog.depth 23 = some (List.replicate 13 3) := by kernel_rfl
  have hn : Tryz.prog.cellsOf 23 = 13 := by kernel_rfl
  simp only [Value.okWide, Tryz.underlying23] at h
  obtain ⟨cs, rfl, hsz, ts, hts, _, hc⟩ := h
  rw [hn] at hsz
  obtain rfl : ts = List.replicate 13 3 := by rw [ht] at hts; exact (Option.some.inj hts).symm
  refine ⟨fun i => intOf (cs.getD i .nilFunc), ?_⟩
  have key : ∀ i, (hi : i < 13) → cs.getD i .nilFunc = .int .i64 (intOf (cs.getD i .nilFunc)) := by
    intro i hi
    have hg : cs[i]? = some (cs.getD i .nilFunc) := by
      rw [Array.getD_eq_getD_getElem?]
      simp [hsz, hi]
    obtain ⟨u, hu, hok⟩ := hc i _ hg
    have hu' : u = 3 := by
      rw [List.getElem?_replicate] at hu
      split at hu
      · exact (Option.some.inj hu).symm
      · cases hu
    subst hu'
    generalize cs.getD i .nilFunc = y at hok ⊢
    unfold Cell.okWide at hok
    simp only [Tryz.underlying3] at hok
    unfold Cell.ok at hok
    simp only [Tryz.underlying3] at hok
    cases y <;> simp_all [intOf]
  have e : cs = Array.ofFn (n := 13) fun i => cs.getD i.val .nilFunc := by
    apply Array.ext
    · simp [hsz]
    · intro i h1 h2
      simp [Array.getD, h1]
  have e2 : cs = Array.ofFn (n := 13) fun i => .int .i64 (intOf (cs.getD i.val .nilFunc)) := by
    conv => lhs; rw [e]
    congr 1
    funext i
    exact key i.val i.isLt
  conv => lhs; rw [e2]
  rfl
end Go.Proofs.YtdemhabgaimnmaaGreatDoor
/- Bytes among a law's arguments. -/
namespace Go.Proofs.YtdemhabgaimnmaaGreatDoor
open Go.ChangeShapes Go.WideShapes Go.ChangeAt Go.RowKit
set_option maxRecDepth 100000

section
variable {H : Type} {enc : TypeId × Value → H} {W : World} {base : Nat} {spare : Nat → Bool} {held : Bool}
theorem spot_none {r : Reach} {b0 : Nat} {t e : TypeId} {a : Addr} {n c : Nat} (ht : Tryz.prog.underlying t = some (.slice e)) (h : Value.okWide Tryz.prog W r b0 t (.slice (some a) n c)) : a.spot = none := by
  simp only [Value.okWide, ht, Cell.okWide, Cell.ok] at h
  exact h.2.2.2.1
theorem bytes_openK {v : Value} {r : Reach} {b0 : Nat} (hv : Value.okWide Tryz.prog W r b0 24 v) {fuel : Nat} {x : DataW H × List MemPlace} (h : DataW.trod enc Tryz.prog W base spare held fuel 24 [v] = some x) :
    ∃ zs : List Nat, KBb W.heap.size W v zs ∧ ∀ z ∈ zs, z < 256 := by
  rcases open_ints Tryz.underlying24 Tryz.underlying5 (by kernel_rfl) h with ⟨hc, _⟩ | ⟨a, len, cap, zs, hc, _, hl, _, hzl, _, hcell, hwf⟩
  · injection hc with hc _
    subst hc
    refine ⟨[], ⟨⟨none, 0, rfl, fun i r hi => by cases hi⟩, fun a n c e hn => absurd rfl hn, fun n c e => (by cases e; rfl), fun p n c e => (by cases e; exact Nat.le_refl _)⟩, fun d hd => by cases hd⟩
  · injection hc with hc _
    subst hc
    have hlm : len ≤ zs.length := by rw [hzl]; split <;> omega
    have hb : ∀ z ∈ zs, 0 ≤ z ∧ z < 256 := fun z hz => by
      have := bounds_u8 (hwf z hz)
      omega
    have hcl : ∀ i, i < len → ∃ z : Nat, ((zs.take len).map Int.toNat)[i]? = some z ∧ W.cell? (a.add i) = some (.int .u8 (z : Int)) := by
      intro i hi
      have hil2 : i < zs.length := by omega
      have hm : zs[i] ∈ zs := List.getElem_mem hil2
      have h0 := hb _ hm
      refine ⟨zs[i].toNat, ?_, ?_⟩
      · rw [List.getElem?_map, List.getElem?_take, if_pos hi, List.getElem?_eq_getElem hil2]; rfl
      · rw [hcell i hil2, List.getD_eq_getElem?_getD, List.getElem?_eq_getElem hil2]
        show some (Value.int .u8 zs[i]) = _
        rw [show ((zs[i].toNat : Nat) : Int) = zs[i] by omega]
    have hla : ((zs.take len).map Int.toNat).length = len := by rw [List.length_map, List.length_take, Nat.min_eq_left hlm]
    obtain ⟨g, off, sp⟩ := a
    obtain rfl : sp = none := spot_none Tryz.underlying24 hv
    have hadd : ∀ i, (⟨g, off, none⟩ : Addr).add i = ⟨g, off + i, none⟩ := by
      intro i
      unfold Addr.add
      split
      · rename_i e; subst e; rfl
      · rfl
    refine ⟨(zs.take len).map Int.toNat, ⟨⟨some ⟨g, off, none⟩, cap, by rw [List.length_map, hla], fun i r hi => ?_⟩, fun a' n c e hn => ?_, fun n c e => (by cases e), fun p n c e => (by cases e; exact hl)⟩, fun z hz => ?_⟩
    · rw [List.getElem?_map] at hi
      have hil : i < len := by
        have : i < ((zs.take len).map Int.toNat).length := by
          rcases Nat.lt_or_ge i ((zs.take len).map Int.toNat).length with q | q
          · exact q
          · rw [List.getElem?_eq_none q] at hi; cases hi
        omega
      obtain ⟨z, h1, h2⟩ := hcl i hil
      rw [h1] at hi
      cases hi
      refine ⟨g, off, rfl, fun j u hj => ?_⟩
      have hj0 : j = 0 := by
        have : j < 1 := (List.getElem?_eq_some_iff.1 hj).1
        omega
      subst hj0
      cases hj
      rw [hadd] at h2
      rwa [Nat.mul_one, Nat.add_zero]
    · cases e
      have h0 : 0 < len := by
        rcases Nat.eq_zero_or_pos len with q | q
        · exact absurd (List.map_eq_nil_iff.2 (List.length_eq_zero_iff.1 (by rw [hla]; exact q))) hn
        · exact q
      obtain ⟨z, h1, h2⟩ := hcl 0 h0
      rw [hadd] at h2
      exact cell_lt h2
    · obtain ⟨z', hz', rfl⟩ := List.mem_map.1 hz
      have := hb _ (List.mem_of_mem_take hz')
      omega
end
end Go.Proofs.YtdemhabgaimnmaaGreatDoor
