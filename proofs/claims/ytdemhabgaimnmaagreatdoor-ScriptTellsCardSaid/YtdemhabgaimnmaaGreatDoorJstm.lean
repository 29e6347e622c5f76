/- A script's bytes, cut off anywhere behind its configuration. -/
import Derived.Test.YtdemhabgaimnmaaGreatDoorJstl
import Derived.StillTailTactics
namespace Go.Proofs.YtdemhabgaimnmaaGreatDoor
open Go.RowKit
set_option maxRecDepth 100000
set_option linter.unusedVariables false

/-- A slice's first elements. -/
theorem KRows.take {K : Nat → Prop} {w : World} {k n c m : Nat} {p : Option Addr} {rows : List (List Value)} (h : KRows K w k (.slice p n c) rows) (hm : m ≤ rows.length) : KRows K w k (.slice p m c) (rows.take m) := by
  obtain ⟨p', c', e, h1⟩ := id h.at'
  injection e with e1 e2 e3
  subst e1 e3
  refine ⟨⟨p, c, by rw [List.length_take, Nat.min_eq_left hm], fun i r hi => ?_⟩, fun a n' c'' e hn => ?_, fun n' c'' e => ?_, fun p' n' c'' e => ?_⟩
  · rw [List.getElem?_take] at hi
    split at hi
    · exact h1 i r hi
    · cases hi
  · cases e
    exact h.kind _ _ _ rfl (by intro q; rw [q] at hn; exact hn (List.take_nil))
  · cases e
    exact h.nil _ _ rfl
  · cases e
    have := h.cap _ _ _ rfl
    omega
theorem KB.take {K : Nat → Prop} {w : World} {n c m : Nat} {p : Option Addr} {l : List Nat} (h : KB K w (.slice p n c) l) (hm : m ≤ l.length) : KB K w (.slice p m c) (l.take m) := by
  have := KRows.take h (m := m) (by rwa [List.length_map])
  rw [← List.map_take] at this
  exact this
theorem KE.take {K : Nat → Prop} {w : World} {n c m : Nat} {p : Option Addr} {l : List Ent} (h : KE K w (.slice p n c) l) (hm : m ≤ l.length) : KE K w (.slice p m c) (l.take m) := by
  have := KRows.take h (m := m) (by rwa [List.length_map])
  rw [← List.map_take] at this
  exact this
theorem drop_head (x : Nat → Int) (r : List Nat) : (headJ x 13 ++ r).drop 52 = r := by
  rw [show (52 : Nat) = (headJ x 13).length from (headJ_len x 13).symm, List.drop_left]
theorem dec_head {x : Nat → Int} (hok : okI x) (r : List Nat) : (decP r [] = none ∧ decK (headJ x 13 ++ r) = 3) ∨ ∃ es, decP r [] = some es ∧ decK (headJ x 13 ++ r) = 0 ∧ decL (headJ x 13 ++ r) = es ∧ ∀ i, i < 13 → decX (headJ x 13 ++ r) i = x i := by
  have hl : ¬ (headJ x 13 ++ r).length < 52 := by rw [List.length_append, headJ_len]; omega
  cases hp : decP r [] with
  | none => exact .inl ⟨rfl, dec_full hl (okI_head hok r) (by rw [drop_head]; exact hp)⟩
  | some es =>
    have h0 := dec_ok hl (okI_head hok r) (es := es) (by rw [drop_head]; exact hp)
    exact .inr ⟨es, rfl, h0, decL_ok h0 (by rw [drop_head]; exact hp), fun i hi => by rw [decX_ok h0]; exact cfg_head hok r i hi⟩
theorem DecGot.cfg {T : TypeId} {Y x : Nat → Int} {k : Int} {es : List Ent} {w w' : World} {e : Ending} (h : DecGot T Y k es w e w') (hx : ∀ i, i < 13 → Y i = x i) : DecGot T x k es w e w' := by
  unfold DecGot at h ⊢
  rw [hx 0 (by decide), hx 1 (by decide), hx 2 (by decide), hx 3 (by decide), hx 4 (by decide), hx 5 (by decide), hx 6 (by decide), hx 7 (by decide), hx 8 (by decide), hx 9 (by decide), hx 10 (by decide), hx 11 (by decide), hx 12 (by decide)] at h
  exact h

end Go.Proofs.YtdemhabgaimnmaaGreatDoor
/- A run of picks, or of ticks, in one or two bytes. -/
namespace Go.Proofs.YtdemhabgaimnmaaGreatDoor
open Go.RowKit
set_option maxRecDepth 100000
set_option linter.unusedVariables false

theorem kb_cells {w : World} {cs : Array Value} {t : TypeId} {l : List Nat} (h : cs.toList = l.map fun (z : Nat) => Value.int .u8 (z : Int)) (hc : l ≠ []) : KBb (w.alloc (.cells cs t)).heap.size (w.alloc (.cells cs t)) (.slice (some ⟨w.heap.size, 0, none⟩) l.length l.length) l := by
  have hn : cs.size = l.length := by rw [← Array.length_toList, h, List.length_map]
  refine ⟨⟨some ⟨w.heap.size, 0, none⟩, l.length, by rw [List.length_map], fun i r hi => ⟨w.heap.size, 0, rfl, fun j u hj => ?_⟩⟩, fun a n c e _ => ?_, fun n c e => (by cases e), fun p n c e => (by cases e; exact Nat.le_refl _)⟩
  · rw [List.getElem?_map] at hi
    cases hz : l[i]? with
    | none => rw [hz] at hi; cases hi
    | some z =>
      rw [hz] at hi
      cases hi
      have hj0 : j = 0 := by
        have : j < 1 := (List.getElem?_eq_some_iff.1 hj).1
        omega
      subst hj0
      cases hj
      rw [cell_of_row _ _ _ _ _ _ (heap_alloc_new w (.cells cs t)), Nat.zero_add, Nat.mul_one, Nat.add_zero, ← Array.getElem?_toList, h, List.getElem?_map, hz]
      rfl
  · cases e
    simp
theorem dec_of {x : Nat → Int} (hok : okI x) {r : List Nat} {es : List Ent} (h : decP r [] = some es) : decK (headJ x 13 ++ r) = 0 ∧ decL (headJ x 13 ++ r) = es ∧ ∀ i, i < 13 → decX (headJ x 13 ++ r) i = x i := by
  rcases dec_head hok r with ⟨h0, _⟩ | ⟨es', h0, h1, h2, h3⟩
  · rw [h] at h0; cases h0
  · rw [h] at h0
    cases h0
    exact ⟨h1, h2, h3⟩
theorem got_of {B : Nat} {v : Value} {w : World} {x : Nat → Int} (hok : okI x) {r : List Nat} {es : List Ent} (hp : decP r [] = some es) (h : KBb B w v (headJ x 13 ++ r)) (hB : B ≤ w.heap.size) (hr : ∀ z ∈ r, z < 256) (hm : r.length ≤ 1000000) :
    Calls Tryz.prog 10 #[v] w (DecGot 56 x 0 es w) := by
  obtain ⟨h1, h2, h3⟩ := dec_of hok hp
  have := got_s h hB (fun z hz => by rcases List.mem_append.1 hz with q | q; exact headJ_lt _ _ z q; exact hr z q) (by rw [List.length_append, headJ_len]; omega)
  rw [h1, h2] at this
  exact this.mono fun _ _ h => h.cfg h3

end Go.Proofs.YtdemhabgaimnmaaGreatDoor
/- script.put: a number's bytes behind others. -/
namespace Go.Proofs.YtdemhabgaimnmaaGreatDoor
open Go.RowKit
set_option maxRecDepth 100000
set_option linter.unusedVariables false

/-- Bytes of a call's own. -/
def OwnB (base : Nat) (w : World) (v : Value) (l : List Nat) : Prop := w.ownsRow base 5 1 v l.length (l.map fun (z : Nat) => Value.int .u8 (z : Int))

set_option maxHeartbeats 1000000 in
theorem script_put_no1 (n : Int) (hn : -9223372036854775808 ≤ n ∧ n < 9223372036854775808) (hno : ¬ (0 ≤ n ∧ n < 256)) (v : Value) (w : World) :
    Calls Tryz.prog 40 #[v, .int .i64 n, .int .i64 1] w fun e w' => e = .returned (.tuple #[v, .bool false]) ∧ w' = w := by
  by_cases h0 : n < 0
  · have h1 : (n < 0) = True := by simp [h0]
    clear hno
    go_enter Tryz.func40, Tryz.ntmps40
    go_wp2
    go_ret2
    exact ⟨rfl, rfl⟩
  · have h1 : (n < 0) = False := by simp [h0]
    have h2 : n / 256 ≠ 0 := by omega
    have h3 : (n / 256 = 0) = False := by simp [h2]
    have h4 : (n / 256 != 0) = true := by simp [h2]
    have h5 : 0 ≤ n := by omega
    clear hno h0 h2
    go_enter Tryz.func40, Tryz.ntmps40
    go_wp2
    go_ret2
    exact ⟨rfl, rfl⟩

set_option maxHeartbeats 2000000 in
theorem script_put1 (n : Nat) (hn : n < 256) (l : List Nat) (hl : l.length ≤ 900000) (base : Nat) (v : Value) (w : World) (ho : OwnB base w v l) (hb : base ≤ w.heap.size) :
    Calls Tryz.prog 40 #[v, .int .i64 (n : Int), .int .i64 1] w fun e w' => ∃ v', e = .returned (.tuple #[v', .bool true]) ∧ OwnB base w' v' (l ++ bytesL n 1) ∧ OntoT base 5 w w' := by
  have h1 : ((n : Int) < 0) = False := by simp
  have h2 : ((n : Int) / 256) = 0 := by omega
  have h5 : (0 : Int) ≤ (n : Int) := by omega
  have h6 : (n : Int) < 256 := by omega
  have HO := Go.Lib.hid ho
  obtain ⟨a0, q0, rfl⟩ := own_form ho
  clear ho
  go_enter Tryz.func40, Tryz.ntmps40
  go_wp2
  clear h2 h1
  go_loopw [0, 1, 19] (fun u0 u1 u19 wr => ∃ (j m : Nat) (cur : List Nat), u19 = .int .i64 (j : Nat) ∧ j ≤ 1 ∧ u1 = .int .i64 (m : Nat) ∧ m < 256 ∧ cur.length = l.length + j ∧ l ++ bytesL n 1 = cur ++ bytesL m (1 - j) ∧ OwnB base wr u0 cur ∧ OntoT base 5 w wr) (fun _ _ i _ => 1 - (intOf i).toNat)
  case atStart => exact ⟨0, n, l, rfl, by decide, rfl, hn, rfl, rfl, HO.out, OntoT.refl _ _ _⟩
  case round =>
    obtain ⟨j, m, cur, rfl, hj, rfl, hm, hcl, heq, hown, hto⟩ := hrel
    obtain ⟨a1, q1, rfl⟩ := own_form hown
    have HOW := Go.Lib.hid hown
    have HTO := Go.Lib.hid hto
    have HEQ := Go.Lib.hid heq
    have HCL := Go.Lib.hid hcl
    have hsz : base ≤ wr.heap.size := Nat.le_trans hb hto.below.size
    clear hown hto heq HO
    by_cases hlt : j < 1
    · have b1 : (j : Int) < 1 := by omega
      have b2 : (0 : Int) ≤ (j : Int) := by omega
      obtain ⟨y, hy⟩ : ∃ y, y = m % 256 := ⟨_, rfl⟩
      obtain ⟨m', hm'⟩ : ∃ m', m' = m / 256 := ⟨_, rfl⟩
      have f1 : ((m : Int) % 256) = (y : Int) := by omega
      have f2 : ((m : Int) / 256) = (m' : Int) := by omega
      have b3 : (0 : Int) ≤ (m : Int) := by omega
      have hm2 : m' < 256 := by omega
      have HBY : Hid (bytesL m (1 - j) = y :: bytesL m' (1 - (j + 1))) := Go.Lib.hid (by
        rw [show 1 - j = (1 - (j + 1)) + 1 by omega, bytesL, hy, hm'])
      have HNW := Go.Lib.hid (kb_cells (w := wr) (cs := #[.int .u8 (y : Int)]) (t := 5) (l := [y]) rfl (by simp))
      have HTA := Go.Lib.hid (HTO.out.alloc hsz (.cells #[.int .u8 (y : Int)] 5))
      have HOA : Hid (OwnB base (wr.alloc (.cells #[.int .u8 (y : Int)] 5)) (.slice a1 cur.length q1) cur) := Go.Lib.hid (World.ownsRow.alloc HOW.out (.cells #[.int .u8 (y : Int)] 5))
      have hsa : base ≤ (wr.alloc (.cells #[.int .u8 (y : Int)] 5)).heap.size := by rw [World.size_alloc]; omega
      clear HTO HOW hy hm' hm
      go_wp2_with (first
        | (at_builtin; refine wpList_append_kb rfl _ _ rfl base _ cur rfl HOA.out _ _ [y] rfl HNW.out (by have := HCL.out; simp only [List.length_singleton]; omega) hsa ?_; intro v9 w9 hown9 hto9; have HO9 : Hid (OwnB base w9 v9 (cur ++ [y])) := Go.Lib.hid hown9; have HT9 := Go.Lib.hid (HTA.out.trans hto9); clear hown9 hto9)
        | fail)
      go_roundw
      case rel => exact ⟨j + 1, m', cur ++ [y], by go_num, by omega, rfl, hm2, by rw [List.length_append, HCL.out]; rfl, by rw [HEQ.out, HBY.out, List.append_assoc]; rfl, HO9.out, HT9.out⟩
      case measure => simp [intOf]; omega
    · have hjn : j = 1 := by omega
      subst hjn
      have HFI : Hid (l ++ bytesL n 1 = cur) := Go.Lib.hid (by rw [HEQ.out, Nat.sub_self, bytesL, List.append_nil])
      clear HEQ
      go_wp2
      go_ret2
      exact ⟨_, rfl, by rw [HFI.out]; exact HOW.out, HTO.out⟩

set_option maxHeartbeats 1000000 in
theorem script_put_no2 (n : Int) (hn : -9223372036854775808 ≤ n ∧ n < 9223372036854775808) (hno : ¬ (0 ≤ n ∧ n < 65536)) (v : Value) (w : World) :
    Calls Tryz.prog 40 #[v, .int .i64 n, .int .i64 2] w fun e w' => e = .returned (.tuple #[v, .bool false]) ∧ w' = w := by
  by_cases h0 : n < 0
  · have h1 : (n < 0) = True := by simp [h0]
    clear hno
    go_enter Tryz.func40, Tryz.ntmps40
    go_wp2
    go_ret2
    exact ⟨rfl, rfl⟩
  · have h1 : (n < 0) = False := by simp [h0]
    have h2 : n / 65536 ≠ 0 := by omega
    have h3 : (n / 65536 = 0) = False := by simp [h2]
    have h4 : (n / 65536 != 0) = true := by simp [h2]
    have h5 : 0 ≤ n := by omega
    clear hno h0 h2
    go_enter Tryz.func40, Tryz.ntmps40
    go_wp2
    go_ret2
    exact ⟨rfl, rfl⟩

set_option maxHeartbeats 2000000 in
theorem script_put2 (n : Nat) (hn : n < 65536) (l : List Nat) (hl : l.length ≤ 900000) (base : Nat) (v : Value) (w : World) (ho : OwnB base w v l) (hb : base ≤ w.heap.size) :
    Calls Tryz.prog 40 #[v, .int .i64 (n : Int), .int .i64 2] w fun e w' => ∃ v', e = .returned (.tuple #[v', .bool true]) ∧ OwnB base w' v' (l ++ bytesL n 2) ∧ OntoT base 5 w w' := by
  have h1 : ((n : Int) < 0) = False := by simp
  have h2 : ((n : Int) / 65536) = 0 := by omega
  have h5 : (0 : Int) ≤ (n : Int) := by omega
  have h6 : (n : Int) < 65536 := by omega
  have HO := Go.Lib.hid ho
  obtain ⟨a0, q0, rfl⟩ := own_form ho
  clear ho
  go_enter Tryz.func40, Tryz.ntmps40
  go_wp2
  clear h2 h1
  go_loopw [0, 1, 19] (fun u0 u1 u19 wr => ∃ (j m : Nat) (cur : List Nat), u19 = .int .i64 (j : Nat) ∧ j ≤ 2 ∧ u1 = .int .i64 (m : Nat) ∧ m < 65536 ∧ cur.length = l.length + j ∧ l ++ bytesL n 2 = cur ++ bytesL m (2 - j) ∧ OwnB base wr u0 cur ∧ OntoT base 5 w wr) (fun _ _ i _ => 2 - (intOf i).toNat)
  case atStart => exact ⟨0, n, l, rfl, by decide, rfl, hn, rfl, rfl, HO.out, OntoT.refl _ _ _⟩
  case round =>
    obtain ⟨j, m, cur, rfl, hj, rfl, hm, hcl, heq, hown, hto⟩ := hrel
    obtain ⟨a1, q1, rfl⟩ := own_form hown
    have HOW := Go.Lib.hid hown
    have HTO := Go.Lib.hid hto
    have HEQ := Go.Lib.hid heq
    have HCL := Go.Lib.hid hcl
    have hsz : base ≤ wr.heap.size := Nat.le_trans hb hto.below.size
    clear hown hto heq HO
    by_cases hlt : j < 2
    · have b1 : (j : Int) < 2 := by omega
      have b2 : (0 : Int) ≤ (j : Int) := by omega
      obtain ⟨y, hy⟩ : ∃ y, y = m % 256 := ⟨_, rfl⟩
      obtain ⟨m', hm'⟩ : ∃ m', m' = m / 256 := ⟨_, rfl⟩
      have f1 : ((m : Int) % 256) = (y : Int) := by omega
      have f2 : ((m : Int) / 256) = (m' : Int) := by omega
      have b3 : (0 : Int) ≤ (m : Int) := by omega
      have hm2 : m' < 65536 := by omega
      have HBY : Hid (bytesL m (2 - j) = y :: bytesL m' (2 - (j + 1))) := Go.Lib.hid (by
        rw [show 2 - j = (2 - (j + 1)) + 1 by omega, bytesL, hy, hm'])
      have HNW := Go.Lib.hid (kb_cells (w := wr) (cs := #[.int .u8 (y : Int)]) (t := 5) (l := [y]) rfl (by simp))
      have HTA := Go.Lib.hid (HTO.out.alloc hsz (.cells #[.int .u8 (y : Int)] 5))
      have HOA : Hid (OwnB base (wr.alloc (.cells #[.int .u8 (y : Int)] 5)) (.slice a1 cur.length q1) cur) := Go.Lib.hid (World.ownsRow.alloc HOW.out (.cells #[.int .u8 (y : Int)] 5))
      have hsa : base ≤ (wr.alloc (.cells #[.int .u8 (y : Int)] 5)).heap.size := by rw [World.size_alloc]; omega
      clear HTO HOW hy hm' hm
      go_wp2_with (first
        | (at_builtin; refine wpList_append_kb rfl _ _ rfl base _ cur rfl HOA.out _ _ [y] rfl HNW.out (by have := HCL.out; simp only [List.length_singleton]; omega) hsa ?_; intro v9 w9 hown9 hto9; have HO9 : Hid (OwnB base w9 v9 (cur ++ [y])) := Go.Lib.hid hown9; have HT9 := Go.Lib.hid (HTA.out.trans hto9); clear hown9 hto9)
        | fail)
      go_roundw
      case rel => exact ⟨j + 1, m', cur ++ [y], by go_num, by omega, rfl, hm2, by rw [List.length_append, HCL.out]; rfl, by rw [HEQ.out, HBY.out, List.append_assoc]; rfl, HO9.out, HT9.out⟩
      case measure => simp [intOf]; omega
    · have hjn : j = 2 := by omega
      subst hjn
      have HFI : Hid (l ++ bytesL n 2 = cur) := Go.Lib.hid (by rw [HEQ.out, Nat.sub_self, bytesL, List.append_nil])
      clear HEQ
      go_wp2
      go_ret2
      exact ⟨_, rfl, by rw [HFI.out]; exact HOW.out, HTO.out⟩

set_option maxHeartbeats 1000000 in
theorem script_put_no4 (n : Int) (hn : -9223372036854775808 ≤ n ∧ n < 9223372036854775808) (hno : ¬ (0 ≤ n ∧ n < 4294967296)) (v : Value) (w : World) :
    Calls Tryz.prog 40 #[v, .int .i64 n, .int .i64 4] w fun e w' => e = .returned (.tuple #[v, .bool false]) ∧ w' = w := by
  by_cases h0 : n < 0
  · have h1 : (n < 0) = True := by simp [h0]
    clear hno
    go_enter Tryz.func40, Tryz.ntmps40
    go_wp2
    go_ret2
    exact ⟨rfl, rfl⟩
  · have h1 : (n < 0) = False := by simp [h0]
    have h2 : n / 4294967296 ≠ 0 := by omega
    have h3 : (n / 4294967296 = 0) = False := by simp [h2]
    have h4 : (n / 4294967296 != 0) = true := by simp [h2]
    have h5 : 0 ≤ n := by omega
    clear hno h0 h2
    go_enter Tryz.func40, Tryz.ntmps40
    go_wp2
    go_ret2
    exact ⟨rfl, rfl⟩

set_option maxHeartbeats 2000000 in
theorem script_put4 (n : Nat) (hn : n < 4294967296) (l : List Nat) (hl : l.length ≤ 900000) (base : Nat) (v : Value) (w : World) (ho : OwnB base w v l) (hb : base ≤ w.heap.size) :
    Calls Tryz.prog 40 #[v, .int .i64 (n : Int), .int .i64 4] w fun e w' => ∃ v', e = .returned (.tuple #[v', .bool true]) ∧ OwnB base w' v' (l ++ bytesL n 4) ∧ OntoT base 5 w w' := by
  have h1 : ((n : Int) < 0) = False := by simp
  have h2 : ((n : Int) / 4294967296) = 0 := by omega
  have h5 : (0 : Int) ≤ (n : Int) := by omega
  have h6 : (n : Int) < 4294967296 := by omega
  have HO := Go.Lib.hid ho
  obtain ⟨a0, q0, rfl⟩ := own_form ho
  clear ho
  go_enter Tryz.func40, Tryz.ntmps40
  go_wp2
  clear h2 h1
  go_loopw [0, 1, 19] (fun u0 u1 u19 wr => ∃ (j m : Nat) (cur : List Nat), u19 = .int .i64 (j : Nat) ∧ j ≤ 4 ∧ u1 = .int .i64 (m : Nat) ∧ m < 4294967296 ∧ cur.length = l.length + j ∧ l ++ bytesL n 4 = cur ++ bytesL m (4 - j) ∧ OwnB base wr u0 cur ∧ OntoT base 5 w wr) (fun _ _ i _ => 4 - (intOf i).toNat)
  case atStart => exact ⟨0, n, l, rfl, by decide, rfl, hn, rfl, rfl, HO.out, OntoT.refl _ _ _⟩
  case round =>
    obtain ⟨j, m, cur, rfl, hj, rfl, hm, hcl, heq, hown, hto⟩ := hrel
    obtain ⟨a1, q1, rfl⟩ := own_form hown
    have HOW := Go.Lib.hid hown
    have HTO := Go.Lib.hid hto
    have HEQ := Go.Lib.hid heq
    have HCL := Go.Lib.hid hcl
    have hsz : base ≤ wr.heap.size := Nat.le_trans hb hto.below.size
    clear hown hto heq HO
    by_cases hlt : j < 4
    · have b1 : (j : Int) < 4 := by omega
      have b2 : (0 : Int) ≤ (j : Int) := by omega
      obtain ⟨y, hy⟩ : ∃ y, y = m % 256 := ⟨_, rfl⟩
      obtain ⟨m', hm'⟩ : ∃ m', m' = m / 256 := ⟨_, rfl⟩
      have f1 : ((m : Int) % 256) = (y : Int) := by omega
      have f2 : ((m : Int) / 256) = (m' : Int) := by omega
      have b3 : (0 : Int) ≤ (m : Int) := by omega
      have hm2 : m' < 4294967296 := by omega
      have HBY : Hid (bytesL m (4 - j) = y :: bytesL m' (4 - (j + 1))) := Go.Lib.hid (by
        rw [show 4 - j = (4 - (j + 1)) + 1 by omega, bytesL, hy, hm'])
      have HNW := Go.Lib.hid (kb_cells (w := wr) (cs := #[.int .u8 (y : Int)]) (t := 5) (l := [y]) rfl (by simp))
      have HTA := Go.Lib.hid (HTO.out.alloc hsz (.cells #[.int .u8 (y : Int)] 5))
      have HOA : Hid (OwnB base (wr.alloc (.cells #[.int .u8 (y : Int)] 5)) (.slice a1 cur.length q1) cur) := Go.Lib.hid (World.ownsRow.alloc HOW.out (.cells #[.int .u8 (y : Int)] 5))
      have hsa : base ≤ (wr.alloc (.cells #[.int .u8 (y : Int)] 5)).heap.size := by rw [World.size_alloc]; omega
      clear HTO HOW hy hm' hm
      go_wp2_with (first
        | (at_builtin; refine wpList_append_kb rfl _ _ rfl base _ cur rfl HOA.out _ _ [y] rfl HNW.out (by have := HCL.out; simp only [List.length_singleton]; omega) hsa ?_; intro v9 w9 hown9 hto9; have HO9 : Hid (OwnB base w9 v9 (cur ++ [y])) := Go.Lib.hid hown9; have HT9 := Go.Lib.hid (HTA.out.trans hto9); clear hown9 hto9)
        | fail)
      go_roundw
      case rel => exact ⟨j + 1, m', cur ++ [y], by go_num, by omega, rfl, hm2, by rw [List.length_append, HCL.out]; rfl, by rw [HEQ.out, HBY.out, List.append_assoc]; rfl, HO9.out, HT9.out⟩
      case measure => simp [intOf]; omega
    · have hjn : j = 4 := by omega
      subst hjn
      have HFI : Hid (l ++ bytesL n 4 = cur) := Go.Lib.hid (by rw [HEQ.out, Nat.sub_self, bytesL, List.append_nil])
      clear HEQ
      go_wp2
      go_ret2
      exact ⟨_, rfl, by rw [HFI.out]; exact HOW.out, HTO.out⟩

end Go.Proofs.YtdemhabgaimnmaaGreatDoor
/- script.lay: an entry's bytes behind others. -/
namespace Go.Proofs.YtdemhabgaimnmaaGreatDoor
open Go.RowKit
set_option maxRecDepth 100000
set_option linter.unusedVariables false

/-- An entry without its parts. -/
def zE (ps : List (Nat × Nat)) (e : Ent) : Ent := ps.foldl (fun b p => b.set p.1 0) e
theorem lay_eq (op : Nat) (a o n g t r u : Int) : zE (shapeP op) ⟨1, 0, 0, n, g, t, r, u⟩ = ⟨1, 0, 0, 0, 0, 0, 0, 0⟩ ↔ (⟨1, a, o, n, g, t, r, u⟩ : Ent) = fillE (shapeP op) ⟨1, a, o, n, g, t, r, u⟩ (invE a o) := by
  unfold shapeP
  by_cases h1 : op = 1
  · simp [h1, zE, fillE, invE, Ent.set, Ent.get]
  · rw [if_neg h1]
    by_cases h2 : op = 2
    · simp [h2, zE, fillE, invE, Ent.set, Ent.get]
    · rw [if_neg h2]
      by_cases h3 : op = 3
      · simp [h3, zE, fillE, invE, Ent.set, Ent.get]
      · rw [if_neg h3]
        by_cases h4 : op = 4
        · simp [h4, zE, fillE, invE, Ent.set, Ent.get]
        · simp [h4, zE, fillE, invE]
/-- A part that is not taken yet is as it was. -/
theorem zE_get (op j : Nat) (e : Ent) (i k : Nat) (h : (shapeP op)[j]? = some (i, k)) : (zE ((shapeP op).take j) e).get i = e.get i := by
  have hj : j < (shapeP op).length := (List.getElem?_eq_some_iff.1 h).1
  unfold shapeP at h hj ⊢
  by_cases h1 : op = 1
  · rw [if_pos h1] at h hj ⊢
    match j, hj with
    | 0, _ => rfl
    | 1, _ => cases h; rfl
    | 2, _ => cases h; rfl
  · rw [if_neg h1] at h hj ⊢
    by_cases h2 : op = 2
    · rw [if_pos h2] at h hj ⊢
      match j, hj with
      | 0, _ => rfl
      | 1, _ => cases h; rfl
    · rw [if_neg h2] at h hj ⊢
      by_cases h3 : op = 3
      · rw [if_pos h3] at h hj ⊢
        match j, hj with
        | 0, _ => rfl
        | 1, _ => cases h; rfl
        | 2, _ => cases h; rfl
      · rw [if_neg h3] at h hj ⊢
        by_cases h4 : op = 4
        · rw [if_pos h4] at h hj ⊢
          match j, hj with
          | 0, _ => rfl
          | 1, _ => cases h; rfl
          | 2, _ => cases h; rfl
        · rw [if_neg h4] at hj
          simp at hj
theorem zE_snoc {ps : List (Nat × Nat)} {j i k : Nat} (e : Ent) (h : ps[j]? = some (i, k)) : zE (ps.take (j + 1)) e = (zE (ps.take j) e).set i 0 := by
  rw [List.take_add_one, h]
  unfold zE
  rw [List.foldl_append]
  rfl
theorem puts_snoc {ps : List (Nat × Nat)} {j i k : Nat} (e : Ent) (h : ps[j]? = some (i, k)) : putsE (ps.take (j + 1)) e = putsE (ps.take j) e ++ bytesL (e.get i).toNat k := by
  rw [List.take_add_one, h]
  unfold putsE
  rw [List.flatMap_append]
  simp
theorem fits_snoc {ps : List (Nat × Nat)} {j i k : Nat} {e : Ent} (h : ps[j]? = some (i, k)) (hf : fitsE (ps.take j) e) (hn : 0 ≤ e.get i ∧ e.get i < ((256 ^ k : Nat) : Int)) : fitsE (ps.take (j + 1)) e := by
  intro p hp
  rw [List.take_add_one, h] at hp
  rcases List.mem_append.1 hp with q | q
  · exact hf p q
  · simp at q
    rw [q]
    exact hn
def LayPost (base : Nat) (l : List Nat) (e0 : Ent) (w : World) (e : Ending) (w' : World) : Prop :=
  ∃ v' ok, e = .returned (.tuple #[v', .bool ok]) ∧ OntoT base 5 w w' ∧ (ok = true ↔ (layP e0).isSome = true) ∧ ∀ bs, layP e0 = some bs → OwnB base w' v' (l ++ bs)
/-- The parts of an entry in memory, in a block of their own kind. -/
def PartsT (base : Nat) (w : World) (v : Value) (ps : List (Nat × Nat)) : Prop := PartsAt base w v ps ∧ ∀ g n c, v = .slice (some ⟨g, 0, none⟩) n c → base ≤ g ∧ ∃ cs fr, w.heap[g]? = some (.cells cs 105 fr)
theorem PartsT.same {base : Nat} {w w' : World} {v : Value} {ps : List (Nat × Nat)} (h : PartsT base w v ps) (hk : ∀ g, base ≤ g → (∃ cs fr, w.heap[g]? = some (.cells cs 105 fr)) → w'.heap[g]? = w.heap[g]?) : PartsT base w' v ps := by
  obtain ⟨⟨p, c, rfl, h1⟩, h2⟩ := h
  refine ⟨⟨p, c, rfl, fun j i k hj => ?_⟩, fun g n c' e => ?_⟩
  · obtain ⟨g, e0, rfl, h3, h4⟩ := h1 j i k hj
    have hs := hk g e0 (h2 g _ _ rfl).2
    exact ⟨g, e0, rfl, (World.cell?_of_block hs).trans h3, (World.cell?_of_block hs).trans h4⟩
  · obtain ⟨h3, cs, fr, h4⟩ := h2 g n c' e
    exact ⟨h3, cs, fr, (hk g h3 ⟨cs, fr, h4⟩).trans h4⟩
theorem PartsT.onto {base B : Nat} {w w' : World} {v : Value} {ps : List (Nat × Nat)} (h : PartsT base w v ps) (ho : OntoT B 5 w w') : PartsT base w' v ps :=
  h.same fun g _ ⟨cs, fr, hc⟩ => (ho.keep g cs 105 fr (by decide) hc).trans hc.symm
theorem PartsT.go {base : Nat} {w w' : World} {v : Value} {ps : List (Nat × Nat)} (h : PartsT base w v ps) (hb : Below w.heap.size w w') : PartsT base w' v ps :=
  h.same fun g _ ⟨cs, fr, hc⟩ => hb.block g (heap_lt0 hc)
theorem PartsT.set {base : Nat} {w : World} {v u : Value} {ps : List (Nat × Nat)} {g9 i : Nat} (h : PartsT base w v ps) (ha : g9 < base) : PartsT base (w.setCell ⟨g9, i, none⟩ u) v ps :=
  h.same fun g hg _ => Go.Deep.blk_setCell_other w ⟨g9, i, none⟩ _ g (by show g ≠ g9; omega)
theorem own_set {w : World} {base k n g9 i : Nat} {e t : TypeId} {v u : Value} {xs : List Value} {cs : Array Value} {fr : Nat × Nat} (h : w.ownsRow base e k v n xs) (hb : w.heap[g9]? = some (.cells cs t fr)) (hne : t ≠ e) : (w.setCell ⟨g9, i, none⟩ u).ownsRow base e k v n xs := by
  have hn := own_type0 h hb hne
  refine ⟨h.1, ?_⟩
  rcases h.2 with h | ⟨g, c, cur, e0, hg, h2, h3⟩
  · exact .inl h
  · refine .inr ⟨g, c, cur, e0, hg, ?_, h3⟩
    have hgb : g ≠ g9 := by intro q; rw [e0] at hn; exact hn (by rw [q]; rfl)
    rw [Go.Deep.blk_setCell_other w ⟨g9, i, none⟩ _ g hgb]
    exact h2
theorem OntoT.set {B g9 i : Nat} {e : TypeId} {w w1 : World} {u : Value} (h : OntoT B e w w1) (hg : w.heap.size ≤ g9) (hB : B ≤ g9) : OntoT B e w (w1.setCell ⟨g9, i, none⟩ u) :=
  ⟨h.below.setCell (p := ⟨g9, i, none⟩) hB _, fun b cs t fr ht hc => (Go.Deep.blk_setCell_other w1 ⟨g9, i, none⟩ _ b (by have := heap_lt0 hc; show b ≠ g9; omega)).trans (h.keep b cs t fr ht hc)⟩
theorem eql_ent (x0 x1 x2 x3 x4 x5 x6 x7 y0 y1 y2 y3 y4 y5 y6 y7 : Int) (D : Bool) (h : D = true ↔ (⟨x0, x1, x2, x3, x4, x5, x6, x7⟩ : Ent) = ⟨y0, y1, y2, y3, y4, y5, y6, y7⟩) (w : World) : (binOp .eql 56 (.agg #[.int .i64 x0, .int .i64 x1, .int .i64 x2, .int .i64 x3, .int .i64 x4, .int .i64 x5, .int .i64 x6, .int .i64 x7]) (.agg #[.int .i64 y0, .int .i64 y1, .int .i64 y2, .int .i64 y3, .int .i64 y4, .int .i64 y5, .int .i64 y6, .int .i64 y7])).run Tryz.prog w = .ok (.bool D) w := by
  cases D with
  | true =>
    have e := h.1 rfl
    cases e
    go_simp
  | false =>
    have hne : ¬ (⟨x0, x1, x2, x3, x4, x5, x6, x7⟩ : Ent) = ⟨y0, y1, y2, y3, y4, y5, y6, y7⟩ := fun e => by have := h.2 e; cases this
    go_simp
    intro e0 e1 e2 e3 e4 e5 e6 e7
    exact hne (by rw [e0, e1, e2, e3, e4, e5, e6, e7])
theorem bool_of (P : Prop) [Decidable P] : ∃ D : Bool, (D = true ↔ P) := ⟨decide P, decide_eq_true_iff⟩
theorem script_put_any (k : Nat) (hk : k = 1 ∨ k = 2 ∨ k = 4) (n : Nat) (hn : n < 256 ^ k) (l : List Nat) (hl : l.length ≤ 900000) (base : Nat) (v : Value) (w : World) (ho : OwnB base w v l) (hb : base ≤ w.heap.size) :
    Calls Tryz.prog 40 #[v, .int .i64 (n : Int), .int .i64 (k : Nat)] w fun e w' => ∃ v', e = .returned (.tuple #[v', .bool true]) ∧ OwnB base w' v' (l ++ bytesL n k) ∧ OntoT base 5 w w' := by
  rcases hk with rfl | rfl | rfl
  · exact script_put1 n hn l hl base v w ho hb
  · exact script_put2 n hn l hl base v w ho hb
  · exact script_put4 n hn l hl base v w ho hb
theorem script_put_no (k : Nat) (hk : k = 1 ∨ k = 2 ∨ k = 4) (n : Int) (hn : -9223372036854775808 ≤ n ∧ n < 9223372036854775808) (hno : ¬ (0 ≤ n ∧ n < ((256 ^ k : Nat) : Int))) (v : Value) (w : World) :
    Calls Tryz.prog 40 #[v, .int .i64 n, .int .i64 (k : Nat)] w fun e w' => e = .returned (.tuple #[v, .bool false]) ∧ w' = w := by
  rcases hk with rfl | rfl | rfl
  · exact script_put_no1 n hn hno v w
  · exact script_put_no2 n hn hno v w
  · exact script_put_no4 n hn hno v w
set_option maxHeartbeats 1000000 in
theorem script_partsT1 (w : World) : Calls Tryz.prog 46 #[.int .i64 1] w fun e w' => ∃ v, e = .returned v ∧ PartsT w.heap.size w' v (shapeP 1) ∧ Below w.heap.size w w' := by
  go_enter Tryz.func46, Tryz.ntmps46
  go_wp2
  go_ret
  have hr := heap_alloc_new (((((w.alloc (.cells #[.func (.func 57) #[] #[], .int .i64 2] 105)).alloc (.cells #[.func (.func 58) #[] #[], .int .i64 4] 105)).alloc (.cells #[.func (.func 59) #[] #[], .int .i64 4] 105)).alloc (.cells #[.func (.func 60) #[] #[], .int .i64 1] 105)).alloc (.cells #[.func (.func 61) #[] #[], .int .i64 4] 105)) (.cells #[.func (.func 59) #[] #[], .int .i64 4, .func (.func 60) #[] #[], .int .i64 1, .func (.func 61) #[] #[], .int .i64 4] 105)
  rw [show (((((w.alloc (.cells #[.func (.func 57) #[] #[], .int .i64 2] 105)).alloc (.cells #[.func (.func 58) #[] #[], .int .i64 4] 105)).alloc (.cells #[.func (.func 59) #[] #[], .int .i64 4] 105)).alloc (.cells #[.func (.func 60) #[] #[], .int .i64 1] 105)).alloc (.cells #[.func (.func 61) #[] #[], .int .i64 4] 105)).heap.size = w.heap.size + 1 + 1 + 1 + 1 + 1 by simp] at hr
  refine ⟨_, rfl, ⟨⟨_, _, rfl, fun j i k hj => ⟨_, ?_, rfl, ?_⟩⟩, fun g n c e => ?_⟩, ?_⟩
  · omega
  · match j, hj with
    | 0, hj => cases hj; exact ⟨cell_of_row _ _ _ _ _ _ hr, cell_of_row _ _ _ _ _ _ hr⟩
    | 1, hj => cases hj; exact ⟨cell_of_row _ _ _ _ _ _ hr, cell_of_row _ _ _ _ _ _ hr⟩
    | 2, hj => cases hj; exact ⟨cell_of_row _ _ _ _ _ _ hr, cell_of_row _ _ _ _ _ _ hr⟩
  · cases e; exact ⟨by omega, _, _, hr⟩
  · exact (((((((Below.refl _ _).alloc (by exact Nat.le_refl _) _).alloc (by first | (simp; done) | (simp; omega)) _).alloc (by first | (simp; done) | (simp; omega)) _).alloc (by first | (simp; done) | (simp; omega)) _).alloc (by first | (simp; done) | (simp; omega)) _).alloc (by first | (simp; done) | (simp; omega)) _)
set_option maxHeartbeats 1000000 in
theorem script_partsT2 (w : World) : Calls Tryz.prog 46 #[.int .i64 2] w fun e w' => ∃ v, e = .returned v ∧ PartsT w.heap.size w' v (shapeP 2) ∧ Below w.heap.size w w' := by
  go_enter Tryz.func46, Tryz.ntmps46
  go_wp2
  go_ret
  have hr := heap_alloc_new (((((w.alloc (.cells #[.func (.func 57) #[] #[], .int .i64 2] 105)).alloc (.cells #[.func (.func 58) #[] #[], .int .i64 4] 105)).alloc (.cells #[.func (.func 59) #[] #[], .int .i64 4] 105)).alloc (.cells #[.func (.func 60) #[] #[], .int .i64 1] 105)).alloc (.cells #[.func (.func 61) #[] #[], .int .i64 4] 105)) (.cells #[.func (.func 57) #[] #[], .int .i64 2, .func (.func 58) #[] #[], .int .i64 4] 105)
  rw [show (((((w.alloc (.cells #[.func (.func 57) #[] #[], .int .i64 2] 105)).alloc (.cells #[.func (.func 58) #[] #[], .int .i64 4] 105)).alloc (.cells #[.func (.func 59) #[] #[], .int .i64 4] 105)).alloc (.cells #[.func (.func 60) #[] #[], .int .i64 1] 105)).alloc (.cells #[.func (.func 61) #[] #[], .int .i64 4] 105)).heap.size = w.heap.size + 1 + 1 + 1 + 1 + 1 by simp] at hr
  refine ⟨_, rfl, ⟨⟨_, _, rfl, fun j i k hj => ⟨_, ?_, rfl, ?_⟩⟩, fun g n c e => ?_⟩, ?_⟩
  · omega
  · match j, hj with
    | 0, hj => cases hj; exact ⟨cell_of_row _ _ _ _ _ _ hr, cell_of_row _ _ _ _ _ _ hr⟩
    | 1, hj => cases hj; exact ⟨cell_of_row _ _ _ _ _ _ hr, cell_of_row _ _ _ _ _ _ hr⟩
  · cases e; exact ⟨by omega, _, _, hr⟩
  · exact (((((((Below.refl _ _).alloc (by exact Nat.le_refl _) _).alloc (by first | (simp; done) | (simp; omega)) _).alloc (by first | (simp; done) | (simp; omega)) _).alloc (by first | (simp; done) | (simp; omega)) _).alloc (by first | (simp; done) | (simp; omega)) _).alloc (by first | (simp; done) | (simp; omega)) _)
set_option maxHeartbeats 1000000 in
theorem script_partsT3 (w : World) : Calls Tryz.prog 46 #[.int .i64 3] w fun e w' => ∃ v, e = .returned v ∧ PartsT w.heap.size w' v (shapeP 3) ∧ Below w.heap.size w w' := by
  go_enter Tryz.func46, Tryz.ntmps46
  go_wp2
  go_ret
  have hr := heap_alloc_new (((((w.alloc (.cells #[.func (.func 57) #[] #[], .int .i64 2] 105)).alloc (.cells #[.func (.func 58) #[] #[], .int .i64 4] 105)).alloc (.cells #[.func (.func 59) #[] #[], .int .i64 4] 105)).alloc (.cells #[.func (.func 60) #[] #[], .int .i64 1] 105)).alloc (.cells #[.func (.func 61) #[] #[], .int .i64 4] 105)) (.cells #[.func (.func 57) #[] #[], .int .i64 2, .func (.func 58) #[] #[], .int .i64 4, .func (.func 59) #[] #[], .int .i64 4] 105)
  rw [show (((((w.alloc (.cells #[.func (.func 57) #[] #[], .int .i64 2] 105)).alloc (.cells #[.func (.func 58) #[] #[], .int .i64 4] 105)).alloc (.cells #[.func (.func 59) #[] #[], .int .i64 4] 105)).alloc (.cells #[.func (.func 60) #[] #[], .int .i64 1] 105)).alloc (.cells #[.func (.func 61) #[] #[], .int .i64 4] 105)).heap.size = w.heap.size + 1 + 1 + 1 + 1 + 1 by simp] at hr
  refine ⟨_, rfl, ⟨⟨_, _, rfl, fun j i k hj => ⟨_, ?_, rfl, ?_⟩⟩, fun g n c e => ?_⟩, ?_⟩
  · omega
  · match j, hj with
    | 0, hj => cases hj; exact ⟨cell_of_row _ _ _ _ _ _ hr, cell_of_row _ _ _ _ _ _ hr⟩
    | 1, hj => cases hj; exact ⟨cell_of_row _ _ _ _ _ _ hr, cell_of_row _ _ _ _ _ _ hr⟩
    | 2, hj => cases hj; exact ⟨cell_of_row _ _ _ _ _ _ hr, cell_of_row _ _ _ _ _ _ hr⟩
  · cases e; exact ⟨by omega, _, _, hr⟩
  · exact (((((((Below.refl _ _).alloc (by exact Nat.le_refl _) _).alloc (by first | (simp; done) | (simp; omega)) _).alloc (by first | (simp; done) | (simp; omega)) _).alloc (by first | (simp; done) | (simp; omega)) _).alloc (by first | (simp; done) | (simp; omega)) _).alloc (by first | (simp; done) | (simp; omega)) _)
set_option maxHeartbeats 1000000 in
theorem script_partsT4 (w : World) : Calls Tryz.prog 46 #[.int .i64 4] w fun e w' => ∃ v, e = .returned v ∧ PartsT w.heap.size w' v (shapeP 4) ∧ Below w.heap.size w w' := by
  go_enter Tryz.func46, Tryz.ntmps46
  go_wp2
  go_ret
  have hr := heap_alloc_new (((((w.alloc (.cells #[.func (.func 57) #[] #[], .int .i64 2] 105)).alloc (.cells #[.func (.func 58) #[] #[], .int .i64 4] 105)).alloc (.cells #[.func (.func 59) #[] #[], .int .i64 4] 105)).alloc (.cells #[.func (.func 60) #[] #[], .int .i64 1] 105)).alloc (.cells #[.func (.func 61) #[] #[], .int .i64 4] 105)) (.cells #[.func (.func 57) #[] #[], .int .i64 2, .func (.func 58) #[] #[], .int .i64 4, .func (.func 60) #[] #[], .int .i64 1] 105)
  rw [show (((((w.alloc (.cells #[.func (.func 57) #[] #[], .int .i64 2] 105)).alloc (.cells #[.func (.func 58) #[] #[], .int .i64 4] 105)).alloc (.cells #[.func (.func 59) #[] #[], .int .i64 4] 105)).alloc (.cells #[.func (.func 60) #[] #[], .int .i64 1] 105)).alloc (.cells #[.func (.func 61) #[] #[], .int .i64 4] 105)).heap.size = w.heap.size + 1 + 1 + 1 + 1 + 1 by simp] at hr
  refine ⟨_, rfl, ⟨⟨_, _, rfl, fun j i k hj => ⟨_, ?_, rfl, ?_⟩⟩, fun g n c e => ?_⟩, ?_⟩
  · omega
  · match j, hj with
    | 0, hj => cases hj; exact ⟨cell_of_row _ _ _ _ _ _ hr, cell_of_row _ _ _ _ _ _ hr⟩
    | 1, hj => cases hj; exact ⟨cell_of_row _ _ _ _ _ _ hr, cell_of_row _ _ _ _ _ _ hr⟩
    | 2, hj => cases hj; exact ⟨cell_of_row _ _ _ _ _ _ hr, cell_of_row _ _ _ _ _ _ hr⟩
  · cases e; exact ⟨by omega, _, _, hr⟩
  · exact (((((((Below.refl _ _).alloc (by exact Nat.le_refl _) _).alloc (by first | (simp; done) | (simp; omega)) _).alloc (by first | (simp; done) | (simp; omega)) _).alloc (by first | (simp; done) | (simp; omega)) _).alloc (by first | (simp; done) | (simp; omega)) _).alloc (by first | (simp; done) | (simp; omega)) _)
set_option maxHeartbeats 1000000 in
theorem script_parts0N (op : Nat) (h1 : op ≠ 1) (h2 : op ≠ 2) (h3 : op ≠ 3) (h4 : op ≠ 4) (w : World) : Calls Tryz.prog 46 #[.int .i64 op] w fun e w' => e = .returned (.slice none 0 0) ∧ Below w.heap.size w w' := by
  have b1 : ((op : Int) == 1) = false := by simp; omega
  have b2 : ((op : Int) == 2) = false := by simp; omega
  have b3 : ((op : Int) == 3) = false := by simp; omega
  have b4 : ((op : Int) == 4) = false := by simp; omega
  clear h1 h2 h3 h4
  generalize (op : Int) = z at *
  go_enter Tryz.func46, Tryz.ntmps46
  go_wp2
  go_ret
  exact ⟨rfl, ((((((Below.refl _ _).alloc (Nat.le_refl _) _).alloc (by simp) _).alloc (by first | (simp; done) | (simp; omega)) _).alloc (by first | (simp; done) | (simp; omega)) _).alloc (by first | (simp; done) | (simp; omega)) _)⟩
theorem script_partsT (op : Nat) (w : World) : Calls Tryz.prog 46 #[.int .i64 op] w fun e w' => ∃ v, e = .returned v ∧ PartsT w.heap.size w' v (shapeP op) ∧ Below w.heap.size w w' := by
  by_cases h1 : op = 1
  · subst h1; exact script_partsT1 w
  by_cases h2 : op = 2
  · subst h2; exact script_partsT2 w
  by_cases h3 : op = 3
  · subst h3; exact script_partsT3 w
  by_cases h4 : op = 4
  · subst h4; exact script_partsT4 w
  refine (script_parts0N op h1 h2 h3 h4 w).mono ?_
  rintro e w' ⟨rfl, hb⟩
  have hs : shapeP op = [] := by unfold shapeP; rw [if_neg h1, if_neg h2, if_neg h3, if_neg h4]
  rw [hs]
  exact ⟨_, rfl, ⟨⟨none, 0, rfl, fun j i k hj => by cases hj⟩, fun g n c e => by cases e⟩, hb⟩
set_option maxHeartbeats 4000000 in
theorem script_lay3 (a o n g t r u : Int) (l : List Nat) (hl : l.length ≤ 800000) (base : Nat) (v : Value) (w : World) (ho : OwnB base w v l) (hb : base ≤ w.heap.size) :
    Calls Tryz.prog 41 #[v, .agg #[.int .i64 3, .int .i64 a, .int .i64 o, .int .i64 n, .int .i64 g, .int .i64 t, .int .i64 r, .int .i64 u]] w (LayPost base l ⟨3, a, o, n, g, t, r, u⟩ w) := by
  obtain ⟨a0, q0, rfl⟩ := own_form ho
  have HO := Go.Lib.hid (World.ownsRow.alloc ho (.cells #[.int .i64 3, .int .i64 a, .int .i64 o, .int .i64 n, .int .i64 g, .int .i64 t, .int .i64 r, .int .i64 u] 56))
  have HT := Go.Lib.hid ((OntoT.refl base 5 w).alloc hb (.cells #[.int .i64 3, .int .i64 a, .int .i64 o, .int .i64 n, .int .i64 g, .int .i64 t, .int .i64 r, .int .i64 u] 56))
  have HQ := Go.Lib.hid (heap_alloc_new w (.cells #[.int .i64 3, .int .i64 a, .int .i64 o, .int .i64 n, .int .i64 g, .int .i64 t, .int .i64 r, .int .i64 u] 56))
  have hsz : base ≤ (w.alloc (.cells #[.int .i64 3, .int .i64 a, .int .i64 o, .int .i64 n, .int .i64 g, .int .i64 t, .int .i64 r, .int .i64 u] 56)).heap.size := by rw [World.size_alloc]; omega
  clear ho
  go_enter Tryz.func41, Tryz.ntmps41
  go_wp2
  generalize (w.alloc (.cells #[.int .i64 3, .int .i64 a, .int .i64 o, .int .i64 n, .int .i64 g, .int .i64 t, .int .i64 r, .int .i64 u] 56)) = W0 at *
  have c0 : W0.cell? ⟨w.heap.size, 0, none⟩ = some (.int .i64 3) := cell_of_row _ _ _ _ _ _ HQ.out
  have c1 : W0.cell? ⟨w.heap.size, 1, none⟩ = some (.int .i64 a) := cell_of_row _ _ _ _ _ _ HQ.out
  have c2 : W0.cell? ⟨w.heap.size, 2, none⟩ = some (.int .i64 o) := cell_of_row _ _ _ _ _ _ HQ.out
  have c3 : W0.cell? ⟨w.heap.size, 3, none⟩ = some (.int .i64 n) := cell_of_row _ _ _ _ _ _ HQ.out
  have c4 : W0.cell? ⟨w.heap.size, 4, none⟩ = some (.int .i64 g) := cell_of_row _ _ _ _ _ _ HQ.out
  have c5 : W0.cell? ⟨w.heap.size, 5, none⟩ = some (.int .i64 t) := cell_of_row _ _ _ _ _ _ HQ.out
  have c6 : W0.cell? ⟨w.heap.size, 6, none⟩ = some (.int .i64 r) := cell_of_row _ _ _ _ _ _ HQ.out
  have c7 : W0.cell? ⟨w.heap.size, 7, none⟩ = some (.int .i64 u) := cell_of_row _ _ _ _ _ _ HQ.out
  go_quiet (fail)
  have hbd := below_drewN (w := W0) nq
  replace HO := Go.Lib.hid (own_below HO.out hbd)
  replace HT := Go.Lib.hid (HT.out.then hsz hbd)
  replace HQ := Go.Lib.hid (row_below hbd HQ.out)
  replace hsz := Nat.le_trans hsz hbd.size
  clear c0 c1 c2 c3 c4 c5 c6 c7 hbd
  generalize W0.drewN nq = W1 at *
  have HNW := Go.Lib.hid (kb_cells (w := W1) (cs := #[.int .u8 (0)]) (t := 5) (l := [0]) rfl (by simp))
  have HTA := Go.Lib.hid (HT.out.alloc hsz (.cells #[.int .u8 (0)] 5))
  have HOA := Go.Lib.hid (World.ownsRow.alloc HO.out (.cells #[.int .u8 (0)] 5))
  have HQA := Go.Lib.hid (row_below ((Below.refl _ W1).alloc (Nat.le_refl _) (.cells #[.int .u8 (0)] 5)) HQ.out)
  have hsa : base ≤ (W1.alloc (.cells #[.int .u8 (0)] 5)).heap.size := by rw [World.size_alloc]; omega
  clear HO HT HQ
  go_wp2_with (first
    | (at_builtin; refine wpList_append_kb rfl _ _ rfl base _ l rfl HOA.out _ _ [0] rfl HNW.out (by show l.length + 1 ≤ 1000000; omega) hsa ?_; intro v9 w9 hown9 hto9; have HO9 : Hid (OwnB base w9 v9 (l ++ [0])) := Go.Lib.hid hown9; have HT9 := Go.Lib.hid (HTA.out.trans hto9); have HQ9 := Go.Lib.hid (hto9.keep _ _ _ _ (by decide) HQA.out); clear hown9 hto9 HTA HOA HQA HNW)
    | fail)
  obtain ⟨D, hD⟩ := bool_of ((⟨3, a, o, n, g, t, r, u⟩ : Ent) = ⟨3, 0, 0, 0, 0, 0, 0, 0⟩)
  have HD := Go.Lib.hid hD
  have heq := fun W => eql_ent 3 a o n g t r u 3 0 0 0 0 0 0 0 D hD W
  clear hD
  refine wp_loop_rounds 1 ?_
  rw [rounds_succ]
  go_wp2
  have c0 : w9.cell? ⟨w.heap.size, 0, none⟩ = some (.int .i64 3) := cell_of_row _ _ _ _ _ _ HQ9.out
  have c1 : w9.cell? ⟨w.heap.size, 1, none⟩ = some (.int .i64 a) := cell_of_row _ _ _ _ _ _ HQ9.out
  have c2 : w9.cell? ⟨w.heap.size, 2, none⟩ = some (.int .i64 o) := cell_of_row _ _ _ _ _ _ HQ9.out
  have c3 : w9.cell? ⟨w.heap.size, 3, none⟩ = some (.int .i64 n) := cell_of_row _ _ _ _ _ _ HQ9.out
  have c4 : w9.cell? ⟨w.heap.size, 4, none⟩ = some (.int .i64 g) := cell_of_row _ _ _ _ _ _ HQ9.out
  have c5 : w9.cell? ⟨w.heap.size, 5, none⟩ = some (.int .i64 t) := cell_of_row _ _ _ _ _ _ HQ9.out
  have c6 : w9.cell? ⟨w.heap.size, 6, none⟩ = some (.int .i64 r) := cell_of_row _ _ _ _ _ _ HQ9.out
  have c7 : w9.cell? ⟨w.heap.size, 7, none⟩ = some (.int .i64 u) := cell_of_row _ _ _ _ _ _ HQ9.out
  go_quiet (fail)
  go_wp2
  go_ret2
  refine ⟨_, D, rfl, HT9.out.then (Nat.le_trans hb HT9.out.below.size) (below_drewN nq), ?_, fun bs hbs => ?_⟩
  · rw [HD.out]
    show _ ↔ (if (3 : Int) = 3 then (if (⟨3, a, o, n, g, t, r, u⟩ : Ent) = tickE then some [0] else none) else _).isSome = true
    rw [if_pos rfl]
    by_cases h : (⟨3, a, o, n, g, t, r, u⟩ : Ent) = tickE
    · rw [if_pos h]; exact ⟨fun _ => rfl, fun _ => h⟩
    · rw [if_neg h]; exact ⟨fun q => absurd q h, fun q => by cases q⟩
  · have h2 : (if (3 : Int) = 3 then (if (⟨3, a, o, n, g, t, r, u⟩ : Ent) = tickE then some [0] else none) else _) = some bs := hbs
    rw [if_pos rfl] at h2
    by_cases h : (⟨3, a, o, n, g, t, r, u⟩ : Ent) = tickE
    · rw [if_pos h] at h2
      cases h2
      exact own_below HO9.out (below_drewN nq)
    · rw [if_neg h] at h2; cases h2

end Go.Proofs.YtdemhabgaimnmaaGreatDoor
/- script.lay of a Pick, of an Invoke, of others. -/
namespace Go.Proofs.YtdemhabgaimnmaaGreatDoor
open Go.RowKit
set_option maxRecDepth 100000
set_option linter.unusedVariables false

theorem i64_or1 (n : Nat) (h : n < 64) : bits .or .i64 ((n : Int) * 4) 1 = ((n * 4 + 1 : Nat) : Int) := by
  have : ∀ m : Fin 64, bits .or .i64 ((m.1 : Int) * 4) 1 = ((m.1 * 4 + 1 : Nat) : Int) := by decide +kernel
  exact this ⟨n, h⟩
theorem i64_or3 (n : Nat) (h : n < 64) : bits .or .i64 ((n : Int) * 4) 3 = ((n * 4 + 3 : Nat) : Int) := by
  have : ∀ m : Fin 64, bits .or .i64 ((m.1 : Int) * 4) 3 = ((m.1 * 4 + 3 : Nat) : Int) := by decide +kernel
  exact this ⟨n, h⟩
theorem LayPost.no {base : Nat} {l : List Nat} {e0 : Ent} {w w' : World} {v : Value} (ht : OntoT base 5 w w') (h : layP e0 = none) : LayPost base l e0 w (.returned (.tuple #[v, .bool false])) w' :=
  ⟨_, false, rfl, ht, by rw [h]; simp, fun bs q => by rw [h] at q; cases q⟩
theorem layP2 {a o n g t r u : Int} : layP ⟨2, a, o, n, g, t, r, u⟩ = if (0 ≤ a ∧ a < 64) ∧ (⟨2, a, o, n, g, t, r, u⟩ : Ent) = pickE a then some [(a * 4 + 1).toNat] else none := by
  unfold layP
  rw [if_neg (show ¬ (2 : Int) = 3 by decide), if_pos (show (2 : Int) = 2 from rfl)]
theorem layP1 {a o n g t r u : Int} : layP ⟨1, a, o, n, g, t, r, u⟩ = if ((0 ≤ o ∧ o < 64) ∧ 0 ≤ a ∧ a < 256) ∧ fitsE (shapeP o.toNat) ⟨1, a, o, n, g, t, r, u⟩ ∧ (⟨1, a, o, n, g, t, r, u⟩ : Ent) = fillE (shapeP o.toNat) ⟨1, a, o, n, g, t, r, u⟩ (invE a o) then some ((o * 4 + 3).toNat :: a.toNat :: putsE (shapeP o.toNat) ⟨1, a, o, n, g, t, r, u⟩) else none := by
  unfold layP
  rw [if_neg (show ¬ (1 : Int) = 3 by decide), if_neg (show ¬ (1 : Int) = 2 by decide), if_pos (show (1 : Int) = 1 from rfl)]
theorem layP0 {k a o n g t r u : Int} (h3 : k ≠ 3) (h2 : k ≠ 2) (h1 : k ≠ 1) : layP ⟨k, a, o, n, g, t, r, u⟩ = none := by
  unfold layP
  rw [if_neg h3, if_neg h2, if_neg h1]

set_option maxHeartbeats 4000000 in
theorem script_lay2 (A : Nat) (hA : A < 64) (o n g t r u : Int) (l : List Nat) (hl : l.length ≤ 800000) (base : Nat) (v : Value) (w : World) (ho : OwnB base w v l) (hb : base ≤ w.heap.size) :
    Calls Tryz.prog 41 #[v, .agg #[.int .i64 2, .int .i64 (A : Nat), .int .i64 o, .int .i64 n, .int .i64 g, .int .i64 t, .int .i64 r, .int .i64 u]] w (LayPost base l ⟨2, (A : Nat), o, n, g, t, r, u⟩ w) := by
  obtain ⟨a0, q0, rfl⟩ := own_form ho
  obtain ⟨y, hy⟩ : ∃ y, y = A * 4 + 1 := ⟨_, rfl⟩
  have f1 : bits .or .i64 ((A : Int) * 4) 1 = (y : Int) := by rw [hy]; exact i64_or1 A hA
  have f2 : ((A : Int) > 63) = False := by simp; omega
  have f3 : ((63 : Int) < (A : Int)) = False := by simp; omega
  have f4 : (y : Int) < 256 := by omega
  have f5 : (0 : Int) ≤ (A : Int) := by omega
  have f6 : (A : Int) < 64 := by omega
  have HY := Go.Lib.hid hy
  clear hy
  have HO := Go.Lib.hid (World.ownsRow.alloc ho (.cells #[.int .i64 2, .int .i64 (A : Nat), .int .i64 o, .int .i64 n, .int .i64 g, .int .i64 t, .int .i64 r, .int .i64 u] 56))
  have HT := Go.Lib.hid ((OntoT.refl base 5 w).alloc hb (.cells #[.int .i64 2, .int .i64 (A : Nat), .int .i64 o, .int .i64 n, .int .i64 g, .int .i64 t, .int .i64 r, .int .i64 u] 56))
  have HQ := Go.Lib.hid (heap_alloc_new w (.cells #[.int .i64 2, .int .i64 (A : Nat), .int .i64 o, .int .i64 n, .int .i64 g, .int .i64 t, .int .i64 r, .int .i64 u] 56))
  have hsz : base ≤ (w.alloc (.cells #[.int .i64 2, .int .i64 (A : Nat), .int .i64 o, .int .i64 n, .int .i64 g, .int .i64 t, .int .i64 r, .int .i64 u] 56)).heap.size := by rw [World.size_alloc]; omega
  clear ho
  go_enter Tryz.func41, Tryz.ntmps41
  go_wp2
  generalize (w.alloc (.cells #[.int .i64 2, .int .i64 (A : Nat), .int .i64 o, .int .i64 n, .int .i64 g, .int .i64 t, .int .i64 r, .int .i64 u] 56)) = W0 at *
  have c0 : W0.cell? ⟨w.heap.size, 0, none⟩ = some (.int .i64 2) := cell_of_row _ _ _ _ _ _ HQ.out
  have c1 : W0.cell? ⟨w.heap.size, 1, none⟩ = some (.int .i64 (A : Nat)) := cell_of_row _ _ _ _ _ _ HQ.out
  have c2 : W0.cell? ⟨w.heap.size, 2, none⟩ = some (.int .i64 o) := cell_of_row _ _ _ _ _ _ HQ.out
  have c3 : W0.cell? ⟨w.heap.size, 3, none⟩ = some (.int .i64 n) := cell_of_row _ _ _ _ _ _ HQ.out
  have c4 : W0.cell? ⟨w.heap.size, 4, none⟩ = some (.int .i64 g) := cell_of_row _ _ _ _ _ _ HQ.out
  have c5 : W0.cell? ⟨w.heap.size, 5, none⟩ = some (.int .i64 t) := cell_of_row _ _ _ _ _ _ HQ.out
  have c6 : W0.cell? ⟨w.heap.size, 6, none⟩ = some (.int .i64 r) := cell_of_row _ _ _ _ _ _ HQ.out
  have c7 : W0.cell? ⟨w.heap.size, 7, none⟩ = some (.int .i64 u) := cell_of_row _ _ _ _ _ _ HQ.out
  go_quiet (fail)
  have hbd := below_drewN (w := W0) nq
  replace HO := Go.Lib.hid (own_below HO.out hbd)
  replace HT := Go.Lib.hid (HT.out.then hsz hbd)
  replace HQ := Go.Lib.hid (row_below hbd HQ.out)
  replace hsz := Nat.le_trans hsz hbd.size
  clear c0 c1 c2 c3 c4 c5 c6 c7 hbd
  generalize W0.drewN nq = W1 at *
  have HNW := Go.Lib.hid (kb_cells (w := W1) (cs := #[.int .u8 ((y : Nat))]) (t := 5) (l := [y]) rfl (by simp))
  have HTA := Go.Lib.hid (HT.out.alloc hsz (.cells #[.int .u8 ((y : Nat))] 5))
  have HOA := Go.Lib.hid (World.ownsRow.alloc HO.out (.cells #[.int .u8 ((y : Nat))] 5))
  have HQA := Go.Lib.hid (row_below ((Below.refl _ W1).alloc (Nat.le_refl _) (.cells #[.int .u8 ((y : Nat))] 5)) HQ.out)
  have hsa : base ≤ (W1.alloc (.cells #[.int .u8 ((y : Nat))] 5)).heap.size := by rw [World.size_alloc]; omega
  clear HO HT HQ
  go_wp2_with (first
    | (at_builtin; refine wpList_append_kb rfl _ _ rfl base _ l rfl HOA.out _ _ [y] rfl HNW.out (by show l.length + 1 ≤ 1000000; omega) hsa ?_; intro v9 w9 hown9 hto9; have HO9 : Hid (OwnB base w9 v9 (l ++ [y])) := Go.Lib.hid hown9; have HT9 := Go.Lib.hid (HTA.out.trans hto9); have HQ9 := Go.Lib.hid (hto9.keep _ _ _ _ (by decide) HQA.out); clear hown9 hto9 HTA HOA HQA HNW; have c1 : w9.cell? ⟨w.heap.size, 1, none⟩ = some (.int .i64 (A : Nat)) := cell_of_row _ _ _ _ _ _ HQ9.out; have z1 : w9.frozen? ⟨w.heap.size, 1, none⟩ = false := frozen_of_row _ _ _ _ _ HQ9.out)
    | fail)
  have HQ10 : Hid ((w9.setCell ⟨w.heap.size, 1, none⟩ (.int .i64 0)).heap[w.heap.size]? = some (.cells #[.int .i64 2, .int .i64 0, .int .i64 o, .int .i64 n, .int .i64 g, .int .i64 t, .int .i64 r, .int .i64 u] 56)) := Go.Lib.hid (row_set0 (j := 1) (v := .int .i64 0) HQ9.out)
  have HO10 : Hid (OwnB base (w9.setCell ⟨w.heap.size, 1, none⟩ (.int .i64 0)) v9 (l ++ [y])) := Go.Lib.hid (own_set HO9.out HQ9.out (by decide))
  have HT10 := Go.Lib.hid (HT9.out.set (g9 := w.heap.size) (i := 1) (u := .int .i64 0) (Nat.le_refl _) hb)
  clear HQ9 HO9 HT9 c1 z1
  generalize (w9.setCell ⟨w.heap.size, 1, none⟩ (.int .i64 0)) = w10 at *
  obtain ⟨D, hD⟩ := bool_of ((⟨2, 0, o, n, g, t, r, u⟩ : Ent) = ⟨2, 0, 0, 0, 0, 0, 0, 0⟩)
  have HD := Go.Lib.hid hD
  have heq := fun W => eql_ent 2 0 o n g t r u 2 0 0 0 0 0 0 0 D hD W
  clear hD
  refine wp_loop_rounds 1 ?_
  rw [rounds_succ]
  go_wp2
  have c0 : w10.cell? ⟨w.heap.size, 0, none⟩ = some (.int .i64 2) := cell_of_row _ _ _ _ _ _ HQ10.out
  have c1 : w10.cell? ⟨w.heap.size, 1, none⟩ = some (.int .i64 0) := cell_of_row _ _ _ _ _ _ HQ10.out
  have c2 : w10.cell? ⟨w.heap.size, 2, none⟩ = some (.int .i64 o) := cell_of_row _ _ _ _ _ _ HQ10.out
  have c3 : w10.cell? ⟨w.heap.size, 3, none⟩ = some (.int .i64 n) := cell_of_row _ _ _ _ _ _ HQ10.out
  have c4 : w10.cell? ⟨w.heap.size, 4, none⟩ = some (.int .i64 g) := cell_of_row _ _ _ _ _ _ HQ10.out
  have c5 : w10.cell? ⟨w.heap.size, 5, none⟩ = some (.int .i64 t) := cell_of_row _ _ _ _ _ _ HQ10.out
  have c6 : w10.cell? ⟨w.heap.size, 6, none⟩ = some (.int .i64 r) := cell_of_row _ _ _ _ _ _ HQ10.out
  have c7 : w10.cell? ⟨w.heap.size, 7, none⟩ = some (.int .i64 u) := cell_of_row _ _ _ _ _ _ HQ10.out
  go_quiet (fail)
  go_wp2
  go_ret2
  have hiff : D = true ↔ (⟨2, (A : Nat), o, n, g, t, r, u⟩ : Ent) = pickE (A : Nat) := by rw [HD.out]; simp [pickE]
  refine ⟨_, D, rfl, HT10.out.then (Nat.le_trans hb HT10.out.below.size) (below_drewN nq), ?_, fun bs hbs => ?_⟩
  · rw [hiff, layP2]
    by_cases h : (⟨2, (A : Nat), o, n, g, t, r, u⟩ : Ent) = pickE (A : Nat)
    · rw [if_pos ⟨⟨by omega, by omega⟩, h⟩]; exact ⟨fun _ => rfl, fun _ => h⟩
    · rw [if_neg (fun q => h q.2)]; exact ⟨fun q => absurd q h, fun q => by cases q⟩
  · rw [layP2] at hbs
    by_cases h : (⟨2, (A : Nat), o, n, g, t, r, u⟩ : Ent) = pickE (A : Nat)
    · rw [if_pos ⟨⟨by omega, by omega⟩, h⟩] at hbs
      cases hbs
      have := own_below HO10.out (below_drewN nq)
      rw [show ((A : Int) * 4 + 1).toNat = y by have := HY.out; omega]
      exact this
    · rw [if_neg (fun q => h q.2)] at hbs; cases hbs

set_option maxHeartbeats 4000000 in
theorem script_lay2no (a o n g t r u : Int) (hno : ¬ (0 ≤ a ∧ a < 64)) (l : List Nat) (hl : l.length ≤ 800000) (base : Nat) (v : Value) (w : World) (ho : OwnB base w v l) (hb : base ≤ w.heap.size) :
    Calls Tryz.prog 41 #[v, .agg #[.int .i64 2, .int .i64 a, .int .i64 o, .int .i64 n, .int .i64 g, .int .i64 t, .int .i64 r, .int .i64 u]] w (LayPost base l ⟨2, a, o, n, g, t, r, u⟩ w) := by
  obtain ⟨a0, q0, rfl⟩ := own_form ho
  have HN := Go.Lib.hid hno
  have HO := Go.Lib.hid (World.ownsRow.alloc ho (.cells #[.int .i64 2, .int .i64 a, .int .i64 o, .int .i64 n, .int .i64 g, .int .i64 t, .int .i64 r, .int .i64 u] 56))
  have HT := Go.Lib.hid ((OntoT.refl base 5 w).alloc hb (.cells #[.int .i64 2, .int .i64 a, .int .i64 o, .int .i64 n, .int .i64 g, .int .i64 t, .int .i64 r, .int .i64 u] 56))
  have HQ := Go.Lib.hid (heap_alloc_new w (.cells #[.int .i64 2, .int .i64 a, .int .i64 o, .int .i64 n, .int .i64 g, .int .i64 t, .int .i64 r, .int .i64 u] 56))
  have hsz : base ≤ (w.alloc (.cells #[.int .i64 2, .int .i64 a, .int .i64 o, .int .i64 n, .int .i64 g, .int .i64 t, .int .i64 r, .int .i64 u] 56)).heap.size := by rw [World.size_alloc]; omega
  clear ho
  go_enter Tryz.func41, Tryz.ntmps41
  go_wp2
  generalize (w.alloc (.cells #[.int .i64 2, .int .i64 a, .int .i64 o, .int .i64 n, .int .i64 g, .int .i64 t, .int .i64 r, .int .i64 u] 56)) = W0 at *
  have c0 : W0.cell? ⟨w.heap.size, 0, none⟩ = some (.int .i64 2) := cell_of_row _ _ _ _ _ _ HQ.out
  have c1 : W0.cell? ⟨w.heap.size, 1, none⟩ = some (.int .i64 a) := cell_of_row _ _ _ _ _ _ HQ.out
  have c2 : W0.cell? ⟨w.heap.size, 2, none⟩ = some (.int .i64 o) := cell_of_row _ _ _ _ _ _ HQ.out
  have c3 : W0.cell? ⟨w.heap.size, 3, none⟩ = some (.int .i64 n) := cell_of_row _ _ _ _ _ _ HQ.out
  have c4 : W0.cell? ⟨w.heap.size, 4, none⟩ = some (.int .i64 g) := cell_of_row _ _ _ _ _ _ HQ.out
  have c5 : W0.cell? ⟨w.heap.size, 5, none⟩ = some (.int .i64 t) := cell_of_row _ _ _ _ _ _ HQ.out
  have c6 : W0.cell? ⟨w.heap.size, 6, none⟩ = some (.int .i64 r) := cell_of_row _ _ _ _ _ _ HQ.out
  have c7 : W0.cell? ⟨w.heap.size, 7, none⟩ = some (.int .i64 u) := cell_of_row _ _ _ _ _ _ HQ.out
  go_quiet (fail)
  have hbd := below_drewN (w := W0) nq
  replace HO := Go.Lib.hid (own_below HO.out hbd)
  replace HT := Go.Lib.hid (HT.out.then hsz hbd)
  replace HQ := Go.Lib.hid (row_below hbd HQ.out)
  replace hsz := Nat.le_trans hsz hbd.size
  clear c0 c1 c2 c3 c4 c5 c6 c7 hbd
  generalize W0.drewN nq = W1 at *
  by_cases h0 : a < 0
  · clear hno
    go_wp2
    go_ret2
    exact LayPost.no HT.out (by rw [layP2, if_neg (fun q => HN.out q.1)])
  · have h1 : (a < 0) = False := by simp [h0]
    have h2 : (63 < a) = True := by simp; omega
    have h3 : (a > 63) = True := by simp; omega
    clear hno h0
    go_wp2
    go_ret2
    exact LayPost.no HT.out (by rw [layP2, if_neg (fun q => HN.out q.1)])

set_option maxHeartbeats 4000000 in
theorem script_lay0 (k a o n g t r u : Int) (h3 : k ≠ 3) (h2 : k ≠ 2) (h1 : k ≠ 1) (l : List Nat) (hl : l.length ≤ 800000) (base : Nat) (v : Value) (w : World) (ho : OwnB base w v l) (hb : base ≤ w.heap.size) :
    Calls Tryz.prog 41 #[v, .agg #[.int .i64 k, .int .i64 a, .int .i64 o, .int .i64 n, .int .i64 g, .int .i64 t, .int .i64 r, .int .i64 u]] w (LayPost base l ⟨k, a, o, n, g, t, r, u⟩ w) := by
  obtain ⟨a0, q0, rfl⟩ := own_form ho
  have HK3 := Go.Lib.hid h3
  have HK2 := Go.Lib.hid h2
  have HK1 := Go.Lib.hid h1
  have k3 : (k == 3) = false := by simp [h3]
  have k2 : (k == 2) = false := by simp [h2]
  have k1 : (k == 1) = false := by simp [h1]
  clear h3 h2 h1
  have HO := Go.Lib.hid (World.ownsRow.alloc ho (.cells #[.int .i64 k, .int .i64 a, .int .i64 o, .int .i64 n, .int .i64 g, .int .i64 t, .int .i64 r, .int .i64 u] 56))
  have HT := Go.Lib.hid ((OntoT.refl base 5 w).alloc hb (.cells #[.int .i64 k, .int .i64 a, .int .i64 o, .int .i64 n, .int .i64 g, .int .i64 t, .int .i64 r, .int .i64 u] 56))
  have HQ := Go.Lib.hid (heap_alloc_new w (.cells #[.int .i64 k, .int .i64 a, .int .i64 o, .int .i64 n, .int .i64 g, .int .i64 t, .int .i64 r, .int .i64 u] 56))
  have hsz : base ≤ (w.alloc (.cells #[.int .i64 k, .int .i64 a, .int .i64 o, .int .i64 n, .int .i64 g, .int .i64 t, .int .i64 r, .int .i64 u] 56)).heap.size := by rw [World.size_alloc]; omega
  clear ho
  go_enter Tryz.func41, Tryz.ntmps41
  go_wp2
  generalize (w.alloc (.cells #[.int .i64 k, .int .i64 a, .int .i64 o, .int .i64 n, .int .i64 g, .int .i64 t, .int .i64 r, .int .i64 u] 56)) = W0 at *
  have c0 : W0.cell? ⟨w.heap.size, 0, none⟩ = some (.int .i64 k) := cell_of_row _ _ _ _ _ _ HQ.out
  have c1 : W0.cell? ⟨w.heap.size, 1, none⟩ = some (.int .i64 a) := cell_of_row _ _ _ _ _ _ HQ.out
  have c2 : W0.cell? ⟨w.heap.size, 2, none⟩ = some (.int .i64 o) := cell_of_row _ _ _ _ _ _ HQ.out
  have c3 : W0.cell? ⟨w.heap.size, 3, none⟩ = some (.int .i64 n) := cell_of_row _ _ _ _ _ _ HQ.out
  have c4 : W0.cell? ⟨w.heap.size, 4, none⟩ = some (.int .i64 g) := cell_of_row _ _ _ _ _ _ HQ.out
  have c5 : W0.cell? ⟨w.heap.size, 5, none⟩ = some (.int .i64 t) := cell_of_row _ _ _ _ _ _ HQ.out
  have c6 : W0.cell? ⟨w.heap.size, 6, none⟩ = some (.int .i64 r) := cell_of_row _ _ _ _ _ _ HQ.out
  have c7 : W0.cell? ⟨w.heap.size, 7, none⟩ = some (.int .i64 u) := cell_of_row _ _ _ _ _ _ HQ.out
  go_quiet (fail)
  have hbd := below_drewN (w := W0) nq
  replace HO := Go.Lib.hid (own_below HO.out hbd)
  replace HT := Go.Lib.hid (HT.out.then hsz hbd)
  replace HQ := Go.Lib.hid (row_below hbd HQ.out)
  replace hsz := Nat.le_trans hsz hbd.size
  clear c0 c1 c2 c3 c4 c5 c6 c7 hbd
  generalize W0.drewN nq = W1 at *
  by_cases h0 : 1 ≤ k
  · have h4 : ¬ k ≤ 3 := by have := HK3.out; have := HK2.out; have := HK1.out; omega
    have h5 : decide (k ≤ 3) = false := by simp [h4]
    have h6 : decide (1 ≤ k) = true := by simp [h0]
    have h7 : (1 ≤ k) = True := by simp [h0]
    have h8 : (k ≤ 3) = False := by simp [h4]
    clear h0 h4
    go_wp2
    refine wp_loop_rounds 1 ?_
    rw [rounds_succ]
    go_wp2
    have c0 : W1.cell? ⟨w.heap.size, 0, none⟩ = some (.int .i64 k) := cell_of_row _ _ _ _ _ _ HQ.out
    have c1 : W1.cell? ⟨w.heap.size, 1, none⟩ = some (.int .i64 a) := cell_of_row _ _ _ _ _ _ HQ.out
    have c2 : W1.cell? ⟨w.heap.size, 2, none⟩ = some (.int .i64 o) := cell_of_row _ _ _ _ _ _ HQ.out
    have c3 : W1.cell? ⟨w.heap.size, 3, none⟩ = some (.int .i64 n) := cell_of_row _ _ _ _ _ _ HQ.out
    have c4 : W1.cell? ⟨w.heap.size, 4, none⟩ = some (.int .i64 g) := cell_of_row _ _ _ _ _ _ HQ.out
    have c5 : W1.cell? ⟨w.heap.size, 5, none⟩ = some (.int .i64 t) := cell_of_row _ _ _ _ _ _ HQ.out
    have c6 : W1.cell? ⟨w.heap.size, 6, none⟩ = some (.int .i64 r) := cell_of_row _ _ _ _ _ _ HQ.out
    have c7 : W1.cell? ⟨w.heap.size, 7, none⟩ = some (.int .i64 u) := cell_of_row _ _ _ _ _ _ HQ.out
    go_quiet (fail)
    go_wp2
    go_ret2
    exact LayPost.no (HT.out.then hsz (below_drewN nq)) (layP0 HK3.out HK2.out HK1.out)
  · have h6 : decide (1 ≤ k) = false := by simp [h0]
    have h7 : (1 ≤ k) = False := by simp [h0]
    clear h0
    go_wp2
    refine wp_loop_rounds 1 ?_
    rw [rounds_succ]
    go_wp2
    have c0 : W1.cell? ⟨w.heap.size, 0, none⟩ = some (.int .i64 k) := cell_of_row _ _ _ _ _ _ HQ.out
    have c1 : W1.cell? ⟨w.heap.size, 1, none⟩ = some (.int .i64 a) := cell_of_row _ _ _ _ _ _ HQ.out
    have c2 : W1.cell? ⟨w.heap.size, 2, none⟩ = some (.int .i64 o) := cell_of_row _ _ _ _ _ _ HQ.out
    have c3 : W1.cell? ⟨w.heap.size, 3, none⟩ = some (.int .i64 n) := cell_of_row _ _ _ _ _ _ HQ.out
    have c4 : W1.cell? ⟨w.heap.size, 4, none⟩ = some (.int .i64 g) := cell_of_row _ _ _ _ _ _ HQ.out
    have c5 : W1.cell? ⟨w.heap.size, 5, none⟩ = some (.int .i64 t) := cell_of_row _ _ _ _ _ _ HQ.out
    have c6 : W1.cell? ⟨w.heap.size, 6, none⟩ = some (.int .i64 r) := cell_of_row _ _ _ _ _ _ HQ.out
    have c7 : W1.cell? ⟨w.heap.size, 7, none⟩ = some (.int .i64 u) := cell_of_row _ _ _ _ _ _ HQ.out
    go_quiet (fail)
    go_wp2
    go_ret2
    exact LayPost.no (HT.out.then hsz (below_drewN nq)) (layP0 HK3.out HK2.out HK1.out)

end Go.Proofs.YtdemhabgaimnmaaGreatDoor
