/- The document's bytes of a configuration alone. -/
import Derived.Test.YtdemhabgaimnmaaGreatDoorJstk
import Derived.Deep.CutBlock
import Derived.Deep.RegionHeld3
namespace Go.Proofs.YtdemhabgaimnmaaGreatDoor
open Go.RowKit
set_option maxRecDepth 100000
set_option linter.unusedVariables false

/-- The bytes of a configuration's first numbers. -/
def headJ (x : Nat → Int) : Nat → List Nat
  | 0 => []
  | j + 1 => headJ x j ++ bytesL (x j).toNat 4
theorem headJ_len (x : Nat → Int) : ∀ j, (headJ x j).length = 4 * j
  | 0 => rfl
  | j + 1 => by rw [headJ, List.length_append, headJ_len x j, bytesL_len]; omega
theorem headJ_lt (x : Nat → Int) : ∀ j, ∀ z ∈ headJ x j, z < 256
  | 0, z, h => by cases h
  | j + 1, z, h => by
    rw [headJ] at h
    rcases List.mem_append.1 h with h | h
    · exact headJ_lt x j z h
    · exact bytesL_lt _ _ z h
theorem headJ_at (x : Nat → Int) : ∀ (n j : Nat), j < n → ∀ r, ((headJ x n ++ r).drop (4 * j)).take 4 = bytesL (x j).toNat 4
  | n + 1, j, h, r => by
    by_cases hj : j = n
    · subst hj
      rw [headJ, List.append_assoc, ← headJ_len x j, List.drop_left]
      have := bytesL_len 4 (x j).toNat
      rw [List.take_append_of_le_length (by omega), List.take_of_length_le (by omega)]
    · rw [headJ, List.append_assoc]
      exact headJ_at x n j (by omega) _
theorem okI_lt {x : Nat → Int} (h : okI x) (i : Nat) (hi : i < 13) : 0 ≤ x i ∧ x i < 4294967296 := by
  have h1 := h i hi
  have h2 : (leastN.getD i 0 : Int) ≤ x i := h1.1
  have h3 : x i ≤ (mostN.getD i 0 : Int) := h1.2
  have h4 : mostN.getD i 0 ≤ 4294967295 := by
    match i, hi with
    | 0, _ | 1, _ | 2, _ | 3, _ | 4, _ | 5, _ | 6, _ | 7, _ | 8, _ | 9, _ | 10, _ | 11, _ | 12, _ => decide
  omega
/-- The configuration of its own bytes. -/
theorem cfg_head {x : Nat → Int} (h : okI x) (r : List Nat) (i : Nat) (hi : i < 13) : cfgL (headJ x 13 ++ r) i = x i := by
  unfold cfgL
  rw [headJ_at x 13 i hi r]
  obtain ⟨h1, h2⟩ := okI_lt h i hi
  rw [numL_bytes 4 _ (by show (x i).toNat < 4294967296; omega)]
  omega
theorem okI_head {x : Nat → Int} (h : okI x) (r : List Nat) : okI (cfgL (headJ x 13 ++ r)) := fun i hi => by rw [cfg_head h r i hi]; exact h i hi
theorem bytes_rows (bs : List Nat) : ((bs.map fun (x : Nat) => [Value.int .u8 (x : Int)]).flatten) = bs.map fun (x : Nat) => Value.int .u8 (x : Int) := by
  induction bs with
  | nil => rfl
  | cons b bs ih => simp only [List.map_cons, List.flatten_cons, ih]; rfl
theorem KB.own {w : World} {base : Nat} {t : TypeId} {v : Value} {bs : List Nat} (h : w.ownsRow base t 1 v bs.length (bs.map fun (x : Nat) => Value.int .u8 (x : Int))) : KB (fun b => base ≤ b ∧ b < w.heap.size) w v bs := by
  have := KRows.own (K := fun b => base ≤ b) (rows := bs.map fun (x : Nat) => [Value.int .u8 (x : Int)]) (by rw [List.length_map, bytes_rows]; exact h) (fun r hr => by obtain ⟨y, _, rfl⟩ := List.mem_map.1 hr; rfl) (fun b hb => hb)
  exact KRows.mono (this.lt (fun r hr => by obtain ⟨y, _, rfl⟩ := List.mem_map.1 hr; simp)) (fun b hb => hb)

set_option maxHeartbeats 4000000 in
theorem ref22_Encode_bad (x : Nat → Int) (hno : ¬ okI x) (v : Value) (w : World) : Calls Tryz.prog 9 #[.agg #[.int .i64 (x 0), .int .i64 (x 1), .int .i64 (x 2), .int .i64 (x 3), .int .i64 (x 4), .int .i64 (x 5), .int .i64 (x 6), .int .i64 (x 7), .int .i64 (x 8), .int .i64 (x 9), .int .i64 (x 10), .int .i64 (x 11), .int .i64 (x 12)], v] w fun e w' => e = .returned (.tuple #[.slice none 0 0, .int .i64 7]) ∧ Below w.heap.size w w' := by
  have HCK : Hid (∀ W, Calls Tryz.prog 16 #[.agg #[.int .i64 (x 0), .int .i64 (x 1), .int .i64 (x 2), .int .i64 (x 3), .int .i64 (x 4), .int .i64 (x 5), .int .i64 (x 6), .int .i64 (x 7), .int .i64 (x 8), .int .i64 (x 9), .int .i64 (x 10), .int .i64 (x 11), .int .i64 (x 12)]] W fun e w' => e = .returned (.bool false) ∧ Below W.heap.size W w') := Go.Lib.hid (fun W => by
    have := ref_Right x W
    rwa [decide_eq_false hno] at this)
  have hb0 : Below w.heap.size w (w.alloc (.cells #[.int .i64 (x 0), .int .i64 (x 1), .int .i64 (x 2), .int .i64 (x 3), .int .i64 (x 4), .int .i64 (x 5), .int .i64 (x 6), .int .i64 (x 7), .int .i64 (x 8), .int .i64 (x 9), .int .i64 (x 10), .int .i64 (x 11), .int .i64 (x 12)] 23)) := (Below.refl _ _).alloc (Nat.le_refl _) _
  have HB0 := Go.Lib.hid hb0
  clear hno hb0
  go_enter Tryz.func9, Tryz.ntmps9
  go_wp2_with fail
  generalize w.alloc (.cells #[.int .i64 (x 0), .int .i64 (x 1), .int .i64 (x 2), .int .i64 (x 3), .int .i64 (x 4), .int .i64 (x 5), .int .i64 (x 6), .int .i64 (x 7), .int .i64 (x 8), .int .i64 (x 9), .int .i64 (x 10), .int .i64 (x 11), .int .i64 (x 12)] 23) = W0 at *
  refine (HCK.out _).mono ?_
  rintro e w2 ⟨rfl, hb2⟩
  have HB2 := Go.Lib.hid (HB0.out.trans (hb2.mono HB0.out.size))
  clear hb2
  go_wp2
  go_ret2
  exact ⟨rfl, HB2.out⟩
set_option maxHeartbeats 4000000 in
theorem ref22_Encode_nil (x : Nat → Int) (hok : okI x) (w : World) : Calls Tryz.prog 9 #[.agg #[.int .i64 (x 0), .int .i64 (x 1), .int .i64 (x 2), .int .i64 (x 3), .int .i64 (x 4), .int .i64 (x 5), .int .i64 (x 6), .int .i64 (x 7), .int .i64 (x 8), .int .i64 (x 9), .int .i64 (x 10), .int .i64 (x 11), .int .i64 (x 12)], .slice none 0 0] w fun e w' => ∃ v, e = .returned (.tuple #[v, .int .i64 0]) ∧ w'.ownsRow w.heap.size 5 1 v (headJ x 13).length ((headJ x 13).map fun (z : Nat) => Value.int .u8 (z : Int)) ∧ Below w.heap.size w w' := by
  have HCK : Hid (∀ W, Calls Tryz.prog 16 #[.agg #[.int .i64 (x 0), .int .i64 (x 1), .int .i64 (x 2), .int .i64 (x 3), .int .i64 (x 4), .int .i64 (x 5), .int .i64 (x 6), .int .i64 (x 7), .int .i64 (x 8), .int .i64 (x 9), .int .i64 (x 10), .int .i64 (x 11), .int .i64 (x 12)]] W fun e w' => e = .returned (.bool true) ∧ Below W.heap.size W w') := Go.Lib.hid (fun W => by
    have := ref_Right x W
    rwa [decide_eq_true hok] at this)
  have hinfo : (Tryz.prog.info? 5).map (fun i => (i.zero, i.size, i.bytes)) = some (some (.int .u8 0), 1, 1) := by kernel_rfl
  obtain ⟨i0, hi0, hz0, hz1, hz2⟩ := info_parts hinfo
  have hund : Tryz.prog.underlying 24 = some (.slice 5) := by kernel_rfl
  have HOK : Hid (∀ i, i < 13 → 0 ≤ x i ∧ x i < 4294967296) := Go.Lib.hid (fun i hi => okI_lt hok i hi)
  have hb0 : Below w.heap.size w (w.alloc (.cells #[.int .i64 (x 0), .int .i64 (x 1), .int .i64 (x 2), .int .i64 (x 3), .int .i64 (x 4), .int .i64 (x 5), .int .i64 (x 6), .int .i64 (x 7), .int .i64 (x 8), .int .i64 (x 9), .int .i64 (x 10), .int .i64 (x 11), .int .i64 (x 12)] 23)) := (Below.refl _ _).alloc (Nat.le_refl _) _
  have HB0 := Go.Lib.hid hb0
  have HX0 := Go.Lib.hid (heap_alloc_new w (.cells #[.int .i64 (x 0), .int .i64 (x 1), .int .i64 (x 2), .int .i64 (x 3), .int .i64 (x 4), .int .i64 (x 5), .int .i64 (x 6), .int .i64 (x 7), .int .i64 (x 8), .int .i64 (x 9), .int .i64 (x 10), .int .i64 (x 11), .int .i64 (x 12)] 23))
  clear hok hb0
  go_enter Tryz.func9, Tryz.ntmps9
  go_wp2_with fail
  generalize w.alloc (.cells #[.int .i64 (x 0), .int .i64 (x 1), .int .i64 (x 2), .int .i64 (x 3), .int .i64 (x 4), .int .i64 (x 5), .int .i64 (x 6), .int .i64 (x 7), .int .i64 (x 8), .int .i64 (x 9), .int .i64 (x 10), .int .i64 (x 11), .int .i64 (x 12)] 23) = W0 at *
  refine (HCK.out _).mono ?_
  rintro e w2 ⟨rfl, hb2⟩
  have hb3 : Below w2.heap.size w2 (w2.alloc (.cells #[] 5)) := (Below.refl _ _).alloc (Nat.le_refl _) _
  have HB2 := Go.Lib.hid ((HB0.out.trans (hb2.mono HB0.out.size)).trans (hb3.mono (HB0.out.trans (hb2.mono HB0.out.size)).size))
  have HX2 := Go.Lib.hid (row_below hb3 (row_below hb2 HX0.out))
  have HO2 := Go.Lib.hid (own_mono (own_empty w2 5 1) (base' := w.heap.size) (by have := HB0.out.size; have := hb2.size; omega))
  clear hb2 hb3 HB0 HX0
  go_wp2_with fail
  generalize (w2.alloc (.cells #[] 5)) = W3 at *
  go_loopw [6, 7] (fun u6 u7 wr => ∃ j : Nat, u7 = .int .i64 (j : Nat) ∧ j ≤ 13 ∧ wr.ownsRow w.heap.size 5 1 u6 (headJ x j).length ((headJ x j).map fun (z : Nat) => Value.int .u8 (z : Int)) ∧ wr.heap[w.heap.size]? = some (.cells #[.int .i64 (x 0), .int .i64 (x 1), .int .i64 (x 2), .int .i64 (x 3), .int .i64 (x 4), .int .i64 (x 5), .int .i64 (x 6), .int .i64 (x 7), .int .i64 (x 8), .int .i64 (x 9), .int .i64 (x 10), .int .i64 (x 11), .int .i64 (x 12)] 23) ∧ Below w.heap.size w wr) (fun _ i _ => 13 - (intOf i).toNat)
  case atStart => exact ⟨0, rfl, by decide, HO2.out, HX2.out, HB2.out⟩
  case round =>
    obtain ⟨j, rfl, hj, hown, hx, hbw⟩ := hrel
    obtain ⟨a10, c10, rfl⟩ := own_form hown
    have HOW := Go.Lib.hid hown
    have HX := Go.Lib.hid hx
    have HBW := Go.Lib.hid hbw
    have HLN := Go.Lib.hid (headJ_len x j)
    clear hown hx hbw HO2 HX2 HB2
    by_cases hlt : j < 13
    · have cj : wr.cell? ⟨w.heap.size, j, none⟩ = some (.int .i64 (x j)) := by
        rw [cell_of_row _ _ _ _ _ _ HX.out]
        match j, hlt with
        | 0, _ | 1, _ | 2, _ | 3, _ | 4, _ | 5, _ | 6, _ | 7, _ | 8, _ | 9, _ | 10, _ | 11, _ | 12, _ => rfl
      obtain ⟨hx0, hx1⟩ := HOK.out j hlt
      have HBY : Hid (∀ W, Calls Tryz.prog 20 #[.int .i64 (x j), .int .i64 4] W fun e w' => ∃ v, e = .returned v ∧ w'.ownsRow W.heap.size 5 1 v 4 ((bytesL (x j).toNat 4).map fun (z : Nat) => Value.int .u8 (z : Int)) ∧ Below W.heap.size W w') := Go.Lib.hid (fun W => by
        refine (ref22_Bytes (x j) (by omega) 4 (by decide) W).mono ?_
        rintro e w' ⟨v, bs, rfl, h1, h2, h3, h4⟩
        rw [h2 hx0, bytesL_len] at h3
        exact ⟨v, rfl, h3, h4⟩)
      have hb1 : (0 : Int) ≤ (j : Int) := by omega
      have hb2 : (j : Int) < 13 := by omega
      go_wp2_with fail
      refine (HBY.out _).mono ?_
      rintro e w5 ⟨vb, rfl, hob, hb5⟩
      have HO5 := Go.Lib.hid (own_below HOW.out hb5)
      have HX5 := Go.Lib.hid (row_below hb5 HX.out)
      have HB5 := Go.Lib.hid (HBW.out.trans (hb5.mono HBW.out.size))
      obtain ⟨ab, cb, rfl⟩ := own_form hob
      have HKR : Hid (KRows (fun q => wr.heap.size ≤ q) w5 1 (.slice ab 4 cb) ((bytesL (x j).toNat 4).map fun (z : Nat) => [Value.int .u8 (z : Int)])) := Go.Lib.hid (KRows.own (by rw [List.length_map, bytesL_len, bytes_rows]; exact hob) (fun r hr => by obtain ⟨y, _, rfl⟩ := List.mem_map.1 hr; rfl) (fun q hq => hq))
      have HR1 : Hid (∀ r ∈ (bytesL (x j).toNat 4).map (fun (z : Nat) => [Value.int .u8 (z : Int)]), r.length = 1) := Go.Lib.hid (fun r hr => by obtain ⟨y, _, rfl⟩ := List.mem_map.1 hr; rfl)
      have HR2 : Hid (∀ r ∈ (bytesL (x j).toNat 4).map (fun (z : Nat) => [Value.int .u8 (z : Int)]), ∀ u ∈ r, u.oneCell' = true) := Go.Lib.hid (fun r hr u hu => by
        obtain ⟨y, _, rfl⟩ := List.mem_map.1 hr
        rw [List.mem_singleton.1 hu]; rfl)
      have HRL : Hid (((bytesL (x j).toNat 4).map fun (z : Nat) => [Value.int .u8 (z : Int)]).length = 4) := Go.Lib.hid (by rw [List.length_map, bytesL_len])
      have HRF := Go.Lib.hid (bytes_rows (bytesL (x j).toNat 4))
      clear hob hb5 cj
      go_wp2_with (first
        | (at_builtin; refine wpList_append_rows rfl _ _ 24 rfl w.heap.size 5 i0 _ 1 1 hund hi0 hz0 hz1 hz2 rfl (by decide) _ (headJ x j).length ((headJ x j).map fun (z : Nat) => Value.int .u8 (z : Int)) rfl HO5.out _ (fun q => wr.heap.size ≤ q) ((bytesL (x j).toNat 4).map fun (z : Nat) => [Value.int .u8 (z : Int)]) rfl HKR.out HR1.out HR2.out (by rw [HRL.out, HLN.out]; unfold maxLen; omega) (by rw [HRL.out, HLN.out]; omega) HB5.out.size ?_; intro v6 w6 hown6 hgrow6)
        | fail)
      have HT := Go.Lib.hid ((OntoT.refl w.heap.size 5 w5).grown HO5.out hgrow6 HB5.out.size (Nat.le_refl _))
      have HO6 := Go.Lib.hid hown6
      clear hown6 hgrow6
      go_roundw
      case rel => exact ⟨j + 1, by go_num, by omega, by have := HO6.out; rw [HRL.out, HRF.out] at this; rw [headJ, List.length_append, bytesL_len, List.map_append]; exact this, HT.out.keep _ _ _ _ (by decide) HX5.out, HB5.out.trans HT.out.below⟩
      case measure => simp [intOf]; omega
    · have hj13 : j = 13 := by omega
      subst hj13
      go_wp2_with fail
      refine wp_loop_rounds 1 ?_
      rw [rounds_succ]
      go_wp2
      go_ret2
      exact ⟨_, rfl, HOW.out, HBW.out⟩
end Go.Proofs.YtdemhabgaimnmaaGreatDoor
/- script.Run over three Ticks; the example of chapter 22. -/
namespace Go.Proofs.YtdemhabgaimnmaaGreatDoor
open Go.RowKit
set_option maxRecDepth 100000
set_option linter.unusedVariables false

/-- The configuration of the example. -/
def c1 : Cf := ⟨1, 1, 1, 1, 1, 0, 0, 0, 1, 1, 1, 0, 0⟩
theorem c1_ok : c1.Ok := by constructor <;> decide
def x1 (i : Nat) : Int := ([1, 1, 1, 1, 1, 0, 0, 0, 1, 1, 1, 0, 0] : List Int).getD i 0
theorem x1_ok : okI x1 := by
  intro i hi
  match i, hi with
  | 0, _ | 1, _ | 2, _ | 3, _ | 4, _ | 5, _ | 6, _ | 7, _ | 8, _ | 9, _ | 10, _ | 11, _ | 12, _ => decide
def story1 : List Nat := headJ x1 13 ++ [8]
theorem story1_len : story1.length = 53 := by rw [story1, List.length_append, headJ_len]; rfl
theorem story1_k : decK story1 = 0 := by
  refine dec_ok (by rw [story1_len]; omega) (okI_head x1_ok [8]) (es := List.replicate 3 tickE) ?_
  rw [story1, show (52 : Nat) = (headJ x1 13).length from (headJ_len x1 13).symm, List.drop_left]
  rfl
theorem story1_l : decL story1 = List.replicate 3 tickE := by
  refine decL_ok story1_k ?_
  rw [story1, show (52 : Nat) = (headJ x1 13).length from (headJ_len x1 13).symm, List.drop_left]
  rfl
theorem story1_x (i : Nat) (hi : i < 13) : decX story1 i = x1 i := by
  rw [decX_ok story1_k]; exact cfg_head x1_ok [8] i hi
theorem story1_lt : ∀ z ∈ story1, z < 256 := by
  intro z hz
  rcases List.mem_append.1 hz with h | h
  · exact headJ_lt _ _ z h
  · rw [List.mem_singleton.1 h]; decide
theorem freshM_zero' {c : Cf} (hok : c.Ok) : freshM c 0 = 0 := by
  have h1 := hok.nodesAt_le
  have h2 := hok.ticketsAt_le
  unfold freshM chains
  rw [stateM_off _ _ _ _ (fun i _ => by omega), chainM_off _ _ _ _ (fun i _ => by omega)]
  unfold upd
  rw [if_neg (by omega), chainM_off _ _ _ _ (fun i _ => by omega), if_neg (by omega)]
theorem tick3_log : (tickN (S0 c1) 3).log = [tickEv 1, tickEv 2, tickEv 3] := by
  have h := tickN_facts (S0 c1)
  have h0 : (S0 c1).m 0 = 0 := freshM_zero' c1_ok
  have e0 : (tickN (S0 c1) 0).m 0 = 0 := h0
  have e1 : (tickN (S0 c1) 1).m 0 = 1 := by rw [(h 1).2.1, h0]
  have e2 : (tickN (S0 c1) 2).m 0 = 2 := by rw [(h 2).2.1, h0]
  show ((([] ++ [tickEv ((tickN (S0 c1) 0).m 0 + 1)]) ++ [tickEv ((tickN (S0 c1) 1).m 0 + 1)]) ++ [tickEv ((tickN (S0 c1) 2).m 0 + 1)]) = _
  rw [e0, e1, e2]
  rfl
theorem own_cellsR {w : World} {base k n : Nat} {e : TypeId} {v : Value} {xs : List Value} (h : w.ownsRow base e k v n xs) (hn : 0 < n) : ∃ g cap, v = .slice (some ⟨g, 0, none⟩) n cap ∧ base ≤ g ∧ g < w.heap.size ∧ ∃ cs fr, w.heap[g]? = some (.cells cs e fr) ∧ ∀ (i : Nat) (u : Value), xs[i]? = some u → w.cell? ⟨g, i, none⟩ = some u := by
  rcases h.2 with ⟨e0, h0⟩ | ⟨g, cap, cur, e0, hg, hb, h1, h2, h3, h4⟩
  · omega
  · refine ⟨g, cap, e0, hg, heap_lt0 hb, cur, _, hb, fun i u hi => ?_⟩
    rw [cell_of_row _ _ _ _ _ _ hb]
    rw [← h4, List.getElem?_take] at hi
    split at hi
    · simpa using hi
    · cases hi
theorem OntoT.then {B : Nat} {e : TypeId} {w w1 w2 : World} (h : OntoT B e w w1) (hB : B ≤ w1.heap.size) (hb : Below w1.heap.size w1 w2) : OntoT B e w w2 :=
  ⟨h.below.trans (hb.mono hB), fun b cs t fr ht hc => row_below hb (h.keep b cs t fr ht hc)⟩
theorem Mach.keepT {E : G} {M T n B : Nat} {k : Int} {L : Lab} {e : TypeId} {w w' : World} (h : Mach E M T n k L w) (ho : OntoT B e w w') (hne : 113 ≠ e) : Mach E M T n k L w' := ⟨ho.keep M _ _ _ hne h.m, h.l⟩
/-- An append of bytes to bytes of the call's own. -/
theorem wpList_append_kb {ops : Array Oper} {rest : List Oper} {o : Oper} {a : Act} {w : World} {Q : Exit → Act → World → Prop} (hgd : o.guard = none) (s x : Operand)
    (ho : o.op = .call { callee := .builtin .append, args := #[s, x], argTypes := #[24, 24] })
    (base : Nat) (v : Value) (l : List Nat) (hs : a.eval s = v) (hown : w.ownsRow base 5 1 v l.length (l.map fun (z : Nat) => Value.int .u8 (z : Int))) (xv : Value) (K : Nat → Prop) (m : List Nat) (hxv : a.eval x = xv) (hx : KB K w xv m)
    (hn : l.length + m.length ≤ 1000000) (hbase : base ≤ w.heap.size)
    (h : ∀ v' w', w'.ownsRow base 5 1 v' (l ++ m).length ((l ++ m).map fun (z : Nat) => Value.int .u8 (z : Int)) → OntoT base 5 w w' → wpList Tryz.prog ops Q rest (a.put o.dst v') w') : wpList Tryz.prog ops Q (o :: rest) a w := by
  have hinfo : (Tryz.prog.info? 5).map (fun i => (i.zero, i.size, i.bytes)) = some (some (.int .u8 0), 1, 1) := by kernel_rfl
  obtain ⟨i0, hi0, hz0, hz1, hz2⟩ := info_parts hinfo
  have hund : Tryz.prog.underlying 24 = some (.slice 5) := by kernel_rfl
  refine wpList_append_rows hgd s x 24 ho base 5 i0 _ 1 1 hund hi0 hz0 hz1 hz2 rfl (by decide) v l.length _ hs hown xv K (m.map fun (z : Nat) => [Value.int .u8 (z : Int)]) hxv hx
    (fun r hr => by obtain ⟨y, _, rfl⟩ := List.mem_map.1 hr; rfl) (fun r hr u hu => by obtain ⟨y, _, rfl⟩ := List.mem_map.1 hr; rw [List.mem_singleton.1 hu]; rfl)
    (by rw [List.length_map]; unfold maxLen; omega) (by rw [List.length_map]; omega) hbase ?_
  intro v' w' h1 h2
  refine h v' w' ?_ ((OntoT.refl base 5 w).grown hown h2 hbase (Nat.le_refl _))
  rw [List.length_append, List.map_append]
  rwa [List.length_map, bytes_rows] at h1

set_option maxHeartbeats 1000000 in
theorem law22_first (w : World) : Calls Tryz.prog 19 #[] w fun e w' => e = .returned (.agg #[.int .i64 1, .int .i64 1, .int .i64 1, .int .i64 1, .int .i64 1, .int .i64 0, .int .i64 0, .int .i64 0, .int .i64 1, .int .i64 1, .int .i64 1, .int .i64 0, .int .i64 0]) ∧ Below w.heap.size w w' := by
  go_enter Tryz.func19, Tryz.ntmps19
  go_wp2_with fail
  exact bodyPost_ret (v := .agg #[.int .i64 1, .int .i64 1, .int .i64 1, .int .i64 1, .int .i64 1, .int .i64 0, .int .i64 0, .int .i64 0, .int .i64 1, .int .i64 1, .int .i64 1, .int .i64 0, .int .i64 0]) (by simp [results, Tryz.results19, go_sem]) rfl ⟨rfl, (Below.refl _ _).alloc (Nat.le_refl _) _⟩

theorem skip_add : (⟨#[115, 107, 105, 112, 112, 101, 100, 32]⟩ ++ ⟨#[48]⟩ : ByteArray) = ⟨#[115, 107, 105, 112, 112, 101, 100, 32, 48]⟩ := rfl
theorem lineT_1 : lineT 1 = ⟨#[116, 105, 99, 107, 32, 49]⟩ := rfl
theorem lineT_3 : lineT 3 = ⟨#[116, 105, 99, 107, 32, 51]⟩ := rfl
/-- The texts of the example's history. -/
def texts (j : Nat) : List Value := (List.range j).map fun i => Value.string (lineT (i + 1))
theorem texts_succ (j : Nat) : texts (j + 1) = texts j ++ [.string (lineT (j + 1))] := by unfold texts; rw [List.range_succ, List.map_append]; rfl
set_option maxHeartbeats 8000000 in
theorem script_run3 {B : Nat} {v : Value} {w : World} (h : KBb B w v story1) (hB : B ≤ w.heap.size) :
    Calls Tryz.prog 15 #[v] w fun e w' => ∃ v', e = .returned (.tuple #[v', .int .i64 0]) ∧ w'.ownsRow w.heap.size 9 1 v' 4 (texts 3 ++ [.string ⟨#[115, 107, 105, 112, 112, 101, 100, 32, 48]⟩]) ∧ Below w.heap.size w w' := by
  have hinfo : (Tryz.prog.info? 9).map (fun i => (i.zero, i.size, i.bytes)) = some (some (.string ⟨#[]⟩), 1, 16) := by kernel_rfl
  obtain ⟨i0, hi0, hz0, hz1, hz2⟩ := info_parts hinfo
  have hund : Tryz.prog.underlying 41 = some (.slice 9) := by kernel_rfl
  have HDC : Hid (Calls Tryz.prog 10 #[v] w fun e w' => ∃ v1, e = .returned (.tuple #[.agg #[.int .i64 1, .int .i64 1, .int .i64 1, .int .i64 1, .int .i64 1, .int .i64 0, .int .i64 0, .int .i64 0, .int .i64 1, .int .i64 1, .int .i64 1, .int .i64 0, .int .i64 0], v1, .int .i64 0]) ∧ w'.ownsRow w.heap.size 56 8 v1 (List.replicate 3 tickE).length ((List.replicate 3 tickE).map Ent.cells).flatten ∧ Below w.heap.size w w') := Go.Lib.hid (by
    have := script_Decode h hB story1_lt (by rw [story1_len]; decide)
    unfold DecPost at this
    rw [story1_k, story1_l, story1_x 0 (by decide), story1_x 1 (by decide), story1_x 2 (by decide), story1_x 3 (by decide), story1_x 4 (by decide), story1_x 5 (by decide), story1_x 6 (by decide), story1_x 7 (by decide), story1_x 8 (by decide), story1_x 9 (by decide), story1_x 10 (by decide), story1_x 11 (by decide), story1_x 12 (by decide)] at this
    exact this)
  have HNEW : Hid (∀ W, Calls Tryz.prog 31 #[.agg #[.int .i64 1, .int .i64 1, .int .i64 1, .int .i64 1, .int .i64 1, .int .i64 0, .int .i64 0, .int .i64 0, .int .i64 1, .int .i64 1, .int .i64 1, .int .i64 0, .int .i64 0]] W fun e w' => ∃ E L M T, e = .returned (.tuple #[.pointer (some ⟨M, 0, none⟩), .int .i64 0]) ∧ E.cf = c1 ∧ Good E L (S0 c1) w' ∧ Mach E M T c1.workers 0 L w' ∧ (∀ b, b < W.heap.size → L b = 0) ∧ Below W.heap.size W w') := Go.Lib.hid (fun W => sched_new c1 c1_ok W)
  have HI0 : Hid (∀ W, Calls Tryz.prog 35 #[.int .i64 0] W fun e w' => e = .returned (.string ⟨#[48]⟩) ∧ w' = W) := Go.Lib.hid (fun W => itoa_digit 0 (by decide) W)
  obtain ⟨p0, q0, rfl, _⟩ := id (KB.form h)
  clear h
  go_enter Tryz.func15, Tryz.ntmps15
  go_wp2_with fail
  refine HDC.out.mono ?_
  rintro e w1 ⟨v1, rfl, ho1, hb1⟩
  have HE1 := Go.Lib.hid (KE.own ho1)
  have HB1 := Go.Lib.hid hb1
  clear ho1 hb1
  go_wp2_with fail
  have HB2 := Go.Lib.hid (HB1.out.trans ((Below.refl w.heap.size w1).alloc HB1.out.size (.cells #[.int .i64 1, .int .i64 1, .int .i64 1, .int .i64 1, .int .i64 1, .int .i64 0, .int .i64 0, .int .i64 0, .int .i64 1, .int .i64 1, .int .i64 1, .int .i64 0, .int .i64 0] 29)))
  have HE2 := Go.Lib.hid (KE.keep HE1.out (fun b hb => ((Below.refl w1.heap.size w1).alloc (Nat.le_refl _) (.cells #[.int .i64 1, .int .i64 1, .int .i64 1, .int .i64 1, .int .i64 1, .int .i64 0, .int .i64 0, .int .i64 0, .int .i64 1, .int .i64 1, .int .i64 1, .int .i64 0, .int .i64 0] 29)).block b hb.2))
  have hz2 : w1.heap.size < (w1.alloc (.cells #[.int .i64 1, .int .i64 1, .int .i64 1, .int .i64 1, .int .i64 1, .int .i64 0, .int .i64 0, .int .i64 0, .int .i64 1, .int .i64 1, .int .i64 1, .int .i64 0, .int .i64 0] 29)).heap.size := by simp
  generalize (w1.alloc (.cells #[.int .i64 1, .int .i64 1, .int .i64 1, .int .i64 1, .int .i64 1, .int .i64 0, .int .i64 0, .int .i64 0, .int .i64 1, .int .i64 1, .int .i64 1, .int .i64 0, .int .i64 0] 29)) = W2 at *
  refine (HNEW.out _).mono ?_
  rintro e w3 ⟨E, L, M, T, rfl, hcf, hg, hm, hold, hb3⟩
  have HB3 := Go.Lib.hid (HB2.out.trans (hb3.mono HB2.out.size))
  have HOLD := Go.Lib.hid hold
  have HOLW : Hid (∀ b, b < w.heap.size → L b = 0) := Go.Lib.hid (fun b hb => hold b (Nat.lt_of_lt_of_le hb HB2.out.size))
  have HE3 := Go.Lib.hid (KE.keep HE2.out (fun b hb => hb3.block b (by omega)))
  have hz3 := hb3.size
  have HRUN := Go.Lib.hid (run_ticks 3 (by decide) HE3.out (fun b hb => ⟨by omega, HOLD.out b (by omega)⟩) hg hm (by decide) (by rw [show (S0 c1).m 0 = 0 from freshM_zero' c1_ok]; decide) (by decide) (by decide) (by decide) (by decide))
  clear hg hm hb3 hold HE1 HE2 HE3 HB1 HB2
  go_wp2_with fail
  refine HRUN.out.mono ?_
  rintro e w4 ⟨L4, rfl, hg4, hm4, hs4⟩
  have HB4 : Hid (Below w.heap.size w w4) := Go.Lib.hid (hs4.below_old HB3.out (Nat.le_refl _) HOLW.out)
  have HHI := Go.Lib.hid (m_History hg4 hm4 (by rw [tick3_log]; decide))
  have HM4 := Go.Lib.hid hm4
  clear hg4 hm4 hs4 HRUN HOLD HB3 hz2 hz3
  go_wp2_with fail
  refine HHI.out.mono ?_
  rintro e w5 ⟨v5, rfl, ho5, hb5⟩
  rw [tick3_log] at ho5
  obtain ⟨g, cap, rfl, hge, hlt5, hrow5⟩ := own_cellsR ho5 (by decide)
  obtain ⟨cs5, fr5, hblk5, hcs5⟩ := hrow5
  have HC5 := Go.Lib.hid hcs5
  have HBK5 := Go.Lib.hid hblk5
  have HM5 := Go.Lib.hid (HM4.out.below hb5)
  have HB5 := Go.Lib.hid (HB4.out.trans (hb5.mono HB4.out.size))
  clear ho5 hb5 hblk5 hcs5 HM4 HB4 HHI HDC HNEW
  go_wp2_with fail
  go_loopw [8, 34] (fun u8 u34 wr => ∃ j : Nat, u34 = .int .i64 (j : Nat) ∧ j ≤ 3 ∧ wr.ownsRow w.heap.size 9 1 u8 j (texts j) ∧ OntoT w.heap.size 9 w5 wr) (fun _ i _ => 3 - (intOf i).toNat)
  case atStart => exact ⟨0, rfl, by decide, World.ownsRow_nil _ _ _ _, OntoT.refl _ _ _⟩
  case round =>
    obtain ⟨j, rfl, hj, hown, hto⟩ := hrel
    obtain ⟨a8, q8, rfl⟩ := own_form hown
    have HOW := Go.Lib.hid hown
    have HTO := Go.Lib.hid hto
    have hsz : w.heap.size ≤ wr.heap.size := Nat.le_trans HB5.out.size hto.below.size
    clear hown hto
    by_cases hlt : j < 3
    · have hblk : wr.heap[g]? = some (.cells cs5 85 fr5) := HTO.out.keep g cs5 85 fr5 (by decide) HBK5.out
      obtain ⟨T, hT⟩ : ∃ T, T = j + 1 := ⟨_, rfl⟩
      have HCL : Hid (∀ (i : Nat) (u : Value), (tickEv T).cells[i]? = some u → wr.cell? ⟨g, j * 12 + i, none⟩ = some u) := Go.Lib.hid (fun i u hi => by
        rw [World.cell?_of_block (hblk.trans HBK5.out.symm)]
        refine HC5.out _ _ ?_
        rw [hT] at hi
        match j, hlt with
        | 0, _ | 1, _ | 2, _ =>
          have : i < 12 := (List.getElem?_eq_some_iff.1 hi).1
          match i, this with
          | 0, _ | 1, _ | 2, _ | 3, _ | 4, _ | 5, _ | 6, _ | 7, _ | 8, _ | 9, _ | 10, _ | 11, _ => exact hi)
      have d0 : wr.cell? ⟨g, j * 12, none⟩ = some (.int .i64 1) := HCL.out 0 _ rfl
      have d1 : wr.cell? ⟨g, j * 12 + 1, none⟩ = some (.int .i64 0) := HCL.out 1 _ rfl
      have d2 : wr.cell? ⟨g, j * 12 + 2, none⟩ = some (.int .i64 0) := HCL.out 2 _ rfl
      have d3 : wr.cell? ⟨g, j * 12 + 3, none⟩ = some (.int .i64 0) := HCL.out 3 _ rfl
      have d4 : wr.cell? ⟨g, j * 12 + 4, none⟩ = some (.int .i64 0) := HCL.out 4 _ rfl
      have d5 : wr.cell? ⟨g, j * 12 + 5, none⟩ = some (.int .i64 0) := HCL.out 5 _ rfl
      have d6 : wr.cell? ⟨g, j * 12 + 6, none⟩ = some (.int .i64 0) := HCL.out 6 _ rfl
      have d7 : wr.cell? ⟨g, j * 12 + 7, none⟩ = some (.int .i64 (T : Nat)) := HCL.out 7 _ rfl
      have d8 : wr.cell? ⟨g, j * 12 + 8, none⟩ = some (.int .i64 0) := HCL.out 8 _ rfl
      have d9 : wr.cell? ⟨g, j * 12 + 9, none⟩ = some (.int .i64 0) := HCL.out 9 _ rfl
      have d10 : wr.cell? ⟨g, j * 12 + 10, none⟩ = some (.bool false) := HCL.out 10 _ rfl
      have d11 : wr.cell? ⟨g, j * 12 + 11, none⟩ = some (.int .i64 0) := HCL.out 11 _ rfl
      have b1 : (0 : Int) ≤ (j : Int) := by omega
      have b2 : (j : Int) < 3 := by omega
      have hTl : T < 10 := by omega
      have HTX : Hid (texts T = texts j ++ [.string (lineT T)]) := Go.Lib.hid (by rw [hT]; exact texts_succ j)
      have HTJ := Go.Lib.hid hT
      have hb6 : Below wr.heap.size wr (wr.alloc (.cells #[.int .i64 1, .int .i64 0, .int .i64 0, .int .i64 0, .int .i64 0, .int .i64 0, .int .i64 0, .int .i64 (T : Nat), .int .i64 0, .int .i64 0, .bool false, .int .i64 0] 85)) := (Below.refl _ _).alloc (Nat.le_refl _) _
      have HLN := Go.Lib.hid (fun W => line_tick T hTl W)
      have HO6 := Go.Lib.hid (own_below HOW.out hb6)
      have HT6 := Go.Lib.hid (HTO.out.then hsz hb6)
      clear hT hTl hblk hb6 HOW HTO
      go_wp2_with fail
      generalize (wr.alloc (.cells #[.int .i64 1, .int .i64 0, .int .i64 0, .int .i64 0, .int .i64 0, .int .i64 0, .int .i64 0, .int .i64 (T : Nat), .int .i64 0, .int .i64 0, .bool false, .int .i64 0] 85)) = W6 at *
      refine (HLN.out _).mono ?_
      rintro e w7 ⟨rfl, hb7⟩
      have hsz7 : w.heap.size ≤ w7.heap.size := Nat.le_trans HB5.out.size (HT6.out.then (Nat.le_trans HB5.out.size HT6.out.below.size) hb7).below.size
      have HO7 := Go.Lib.hid (own_below HO6.out hb7)
      have HT7 := Go.Lib.hid ((HT6.out.then (Nat.le_trans HB5.out.size HT6.out.below.size) hb7).alloc hsz7 (.cells #[.string (lineT T)] 9))
      clear hb7 HO6 HT6 HLN d0 d1 d2 d3 d4 d5 d6 d7 d8 d9 d10 d11
      generalize lineT T = s at *
      go_wp2_with (first
        | (at_builtin; refine wpList_append_own _ rfl _ _ 41 rfl w.heap.size 9 i0 _ 1 16 hund hi0 hz0 hz1 hz2 rfl (by decide) _ j (texts j) rfl (HO7.out.alloc _) ⟨w7.heap.size, 0, none⟩ 1 1 [.string s] rfl rfl (World.news_of_block (cs := #[.string s]) (t := 9) (fr := (0, 0)) (heap_alloc_new _ _)) (by simp [Value.oneCell']) (by unfold maxLen; omega) (by omega) (by rw [World.size_alloc]; omega) ?_; intro v8 w8 hown8 hgrow8 hnil8; have HT8 := Go.Lib.hid (HT7.out.grown (HO7.out.alloc _) hgrow8 (by rw [World.size_alloc]; omega) (Nat.le_refl _)); have HO8 := Go.Lib.hid hown8; clear hown8 hgrow8 hnil8)
        | fail)
      go_roundw
      case rel => exact ⟨T, by rw [HTJ.out]; go_num, by have := HTJ.out; omega, by have := HO8.out; rw [HTX.out, HTJ.out]; exact this, HT8.out⟩
      case measure => simp [intOf]; omega
    · have hj3 : j = 3 := by omega
      subst hj3
      have HSK := Go.Lib.hid (m_Skipped (HM5.out.keepT HTO.out (by decide)))
      have hb9 : Below w.heap.size w wr := HB5.out.trans HTO.out.below
      have HB9 := Go.Lib.hid hb9
      have HTA := Go.Lib.hid ((OntoT.refl w.heap.size 9 wr).alloc hsz (.cells #[.string (⟨#[115, 107, 105, 112, 112, 101, 100, 32]⟩ ++ ⟨#[48]⟩ : ByteArray)] 9))
      clear HTO HC5 HBK5 HM5 HB5 hb9
      go_wp2_with fail
      refine HSK.out.mono ?_
      rintro e wa ⟨rfl, rfl⟩
      go_wp2_with fail
      refine (HI0.out _).mono ?_
      rintro e wb ⟨rfl, rfl⟩
      go_wp2_with (first
        | (at_builtin; refine wpList_append_own _ rfl _ _ 41 rfl w.heap.size 9 i0 _ 1 16 hund hi0 hz0 hz1 hz2 rfl (by decide) _ 3 (texts 3) rfl (HOW.out.alloc _) ⟨wb.heap.size, 0, none⟩ 1 1 [.string (⟨#[115, 107, 105, 112, 112, 101, 100, 32]⟩ ++ ⟨#[48]⟩ : ByteArray)] rfl rfl (World.news_of_block (cs := #[.string (⟨#[115, 107, 105, 112, 112, 101, 100, 32]⟩ ++ ⟨#[48]⟩ : ByteArray)]) (t := 9) (fr := (0, 0)) (heap_alloc_new _ _)) (by simp [Value.oneCell']) (by unfold maxLen; omega) (by omega) (by rw [World.size_alloc]; omega) ?_; intro v8 w8 hown8 hgrow8 hnil8; have HT8 := Go.Lib.hid (HTA.out.grown (HOW.out.alloc _) hgrow8 (by rw [World.size_alloc]; omega) (Nat.le_refl _)); have HO8 := Go.Lib.hid hown8; clear hown8 hgrow8 hnil8)
        | fail)
      go_ret2
      exact ⟨_, rfl, by have := HO8.out; rwa [skip_add] at this, HB9.out.trans HT8.out.below⟩
set_option maxHeartbeats 4000000 in
theorem law22_speaks (w : World) : Calls Tryz.prog 8 #[] w fun e w' => e = .returned (.bool true) ∧ Below w.heap.size w w' := by
  have HEN : Hid (∀ W, Calls Tryz.prog 9 #[.agg #[.int .i64 1, .int .i64 1, .int .i64 1, .int .i64 1, .int .i64 1, .int .i64 0, .int .i64 0, .int .i64 0, .int .i64 1, .int .i64 1, .int .i64 1, .int .i64 0, .int .i64 0], .slice none 0 0] W fun e w' => ∃ v, e = .returned (.tuple #[v, .int .i64 0]) ∧ w'.ownsRow W.heap.size 5 1 v (headJ x1 13).length ((headJ x1 13).map fun (z : Nat) => Value.int .u8 (z : Int)) ∧ Below W.heap.size W w') := Go.Lib.hid (fun W => ref22_Encode_nil x1 x1_ok W)
  have HRN : Hid (∀ W v, KBb W.heap.size W v story1 → Calls Tryz.prog 15 #[v] W fun e w' => ∃ v', e = .returned (.tuple #[v', .int .i64 0]) ∧ w'.ownsRow W.heap.size 9 1 v' 4 (texts 3 ++ [.string ⟨#[115, 107, 105, 112, 112, 101, 100, 32, 48]⟩]) ∧ Below W.heap.size W w') := Go.Lib.hid (fun W v h => script_run3 h (Nat.le_refl _))
  go_enter Tryz.func8, Tryz.ntmps8
  go_wp2_with fail
  refine (law22_first _).mono ?_
  rintro e w1 ⟨rfl, hb1⟩
  have HB1 := Go.Lib.hid hb1
  clear hb1
  go_wp2_with fail
  refine (HEN.out _).mono ?_
  rintro e w2 ⟨v2, rfl, ho2, hb2⟩
  obtain ⟨a2, q2, rfl⟩ := own_form ho2
  have HB2 := Go.Lib.hid (HB1.out.trans (hb2.mono HB1.out.size))
  have hb3 : Below w2.heap.size w2 (w2.alloc (.cells #[.int .u8 8] 5)) := (Below.refl _ _).alloc (Nat.le_refl _) _
  have HO3 := Go.Lib.hid (own_mono (own_below ho2 hb3) HB1.out.size)
  have HB3 := Go.Lib.hid (HB2.out.trans (hb3.mono HB2.out.size))
  have HK3 : Hid (KB (fun _ => True) (w2.alloc (.cells #[.int .u8 8] 5)) (.slice (some ⟨w2.heap.size, 0, none⟩) 1 1) [8]) := Go.Lib.hid (KRows.mono (KB.own (own_one (base := 0) (k := 1) (e := 5) (cs := #[.int .u8 8]) (Nat.zero_le _) rfl)) (fun _ _ => trivial))
  clear ho2 hb2 hb3 HB1 HB2
  go_wp2_with (first
    | (at_builtin; refine wpList_append_kb rfl _ _ rfl w.heap.size _ (headJ x1 13) rfl HO3.out _ (fun _ => True) [8] rfl HK3.out (by rw [headJ_len]; decide) HB3.out.size ?_; intro v4 w4 hown4 hto4; have HK4 : Hid (KBb w4.heap.size w4 v4 story1) := Go.Lib.hid (KRows.mono (KB.own hown4) (fun b hb => hb.2)); have HB4 := Go.Lib.hid (HB3.out.trans hto4.below); clear hown4 hto4 HO3 HB3 HK3)
    | fail)
  refine (HRN.out _ _ HK4.out).mono ?_
  rintro e w5 ⟨v5, rfl, ho5, hb5⟩
  obtain ⟨g, cap, rfl, hge, hlt5, cs5, fr5, hblk5, hcs5⟩ := own_cellsR ho5 (by decide)
  have s0 : w5.cell? ⟨g, 0, none⟩ = some (.string ⟨#[116, 105, 99, 107, 32, 49]⟩) := by rw [← lineT_1]; exact hcs5 0 _ rfl
  have s2 : w5.cell? ⟨g, 2, none⟩ = some (.string ⟨#[116, 105, 99, 107, 32, 51]⟩) := by rw [← lineT_3]; exact hcs5 2 _ rfl
  have s3 : w5.cell? ⟨g, 3, none⟩ = some (.string ⟨#[115, 107, 105, 112, 112, 101, 100, 32, 48]⟩) := hcs5 3 _ rfl
  have HB5 := Go.Lib.hid (HB4.out.trans (hb5.mono HB4.out.size))
  clear ho5 hb5 hblk5 hcs5 HK4 HB4 HRN HEN
  go_wp2
  go_ret
  exact ⟨rfl, HB5.out⟩

end Go.Proofs.YtdemhabgaimnmaaGreatDoor
/- The document's answer of what the bytes of a script say. -/
namespace Go.Proofs.YtdemhabgaimnmaaGreatDoor
open Go.RowKit
set_option maxRecDepth 100000
set_option linter.unusedVariables false

theorem idx_str (s : ByteArray) (k c : Nat) (hk : s.data[k]? = some (UInt8.ofNat c)) (hc : c < 256) (w : World) : (Instr.index 9 (.string s) (.int .i64 (k : Nat))).run Tryz.prog w = .ok (.int .u8 (c : Nat)) w := by
  have hlt : k < s.size := (Array.getElem?_eq_some_iff.1 hk).1
  have he : s.data[k] = UInt8.ofNat c := (Array.getElem?_eq_some_iff.1 hk).2
  rw [run_index_string _ _ _ _ _ Tryz.underlying9, dif_pos (by omega)]
  have h2 : s[((k : Int)).toNat]'(by omega) = s.data[k] := rfl
  rw [h2, he]
  congr 2
  simp [UInt8.toNat_ofNat]
  omega

theorem setRow_ne {w : World} {g b : Nat} {cs : Array Value} (h : b ≠ g) : (w.setRow g cs).heap[b]? = w.heap[b]? := by
  simp [World.setRow, Array.getElem?_modify, Ne.symm h]
theorem chrE_lt (f : Nat) : chrE f < 256 := by
  unfold chrE
  repeat' split
  all_goals decide

section
variable {P : Program} {w : World}
end

end Go.Proofs.YtdemhabgaimnmaaGreatDoor
/- Bytes that are no script; what any bytes say. -/
namespace Go.Proofs.YtdemhabgaimnmaaGreatDoor
open Go.RowKit
set_option maxRecDepth 100000
set_option linter.unusedVariables false

/-- What a Decode answers, by letters. -/
def DecGot (T : TypeId) (Y : Nat → Int) (k : Int) (es : List Ent) (w : World) (e : Ending) (w' : World) : Prop :=
  ∃ v, e = .returned (.tuple #[.agg #[.int .i64 (Y 0), .int .i64 (Y 1), .int .i64 (Y 2), .int .i64 (Y 3), .int .i64 (Y 4), .int .i64 (Y 5), .int .i64 (Y 6), .int .i64 (Y 7), .int .i64 (Y 8), .int .i64 (Y 9), .int .i64 (Y 10), .int .i64 (Y 11), .int .i64 (Y 12)], v, .int .i64 k]) ∧ KE (fun b => w.heap.size ≤ b ∧ b < w'.heap.size) w' v es ∧ Below w.heap.size w w'
theorem DecPost.got {T : TypeId} {w w' : World} {l : List Nat} {e : Ending} (h : DecPost T w l e w') : DecGot T (decX l) (decK l) (decL l) w e w' := by
  obtain ⟨v, he, ho, hb⟩ := h
  exact ⟨v, he, KE.own ho, hb⟩
end Go.Proofs.YtdemhabgaimnmaaGreatDoor
/- What any bytes say, behind whatever configuration. -/
namespace Go.Proofs.YtdemhabgaimnmaaGreatDoor
open Go.RowKit
set_option maxRecDepth 100000
set_option linter.unusedVariables false

theorem below_range {w w' : World} (hb : Below w.heap.size w w') {g o : Nat} {cs : List Value} (h : w.rangeAt g o cs) : w'.rangeAt g o cs := fun j u hj => below_cell hb (h j u hj)
/-- Entries in a slice whose block is there. -/
def KEs (w : World) (v : Value) (es : List Ent) : Prop := KE (fun b => b < w.heap.size) w v es
theorem KEs.below {w w' : World} {v : Value} {es : List Ent} (h : KEs w v es) (hb : Below w.heap.size w w') : KEs w' v es := KRows.mono (KE.keep h (fun b hb' => hb.block b hb')) (fun b hb' => Nat.lt_of_lt_of_le hb' hb.size)
theorem KEs.of {w : World} {n : Nat} {v : Value} {es : List Ent} (h : KE (fun b => n ≤ b ∧ b < w.heap.size) w v es) : KEs w v es := KRows.mono h (fun b hb => hb.2)
theorem KBb.go {w w' : World} {v : Value} {l : List Nat} (h : KBb w.heap.size w v l) (hb : Below w.heap.size w w') : KBb w'.heap.size w' v l := KRows.mono (KBb.below h (Nat.le_refl _) hb) (fun b hb' => Nat.lt_of_lt_of_le hb' hb.size)
theorem KBb.own {w : World} {base : Nat} {t : TypeId} {v : Value} {bs : List Nat} (h : w.ownsRow base t 1 v bs.length (bs.map fun (x : Nat) => Value.int .u8 (x : Int))) : KBb w.heap.size w v bs := KRows.mono (KB.own h) (fun b hb => hb.2)
theorem got_s {B : Nat} {v : Value} {l : List Nat} {w : World} (h : KBb B w v l) (hB : B ≤ w.heap.size) (hb : ∀ z ∈ l, z < 256) (hm : l.length ≤ 9000000000000000) :
    Calls Tryz.prog 10 #[v] w (DecGot 56 (decX l) (decK l) (decL l) w) := (script_Decode h hB hb (by omega)).mono fun _ _ h => h.got
end Go.Proofs.YtdemhabgaimnmaaGreatDoor
