/- The document's small functions of chapter 22. -/
import Derived.Test.YtdemhabgaimnmaaGreatDoorJste
namespace Go.Proofs.YtdemhabgaimnmaaGreatDoor
open Go.RowKit
set_option maxRecDepth 100000
set_option linter.unusedVariables false

def chrE (i : Nat) : Nat := if i = 3 then 110 else if i = 4 then 103 else if i = 5 then 116 else if i = 6 then 97 else 117
def strE (op : Nat) : ByteArray := if op = 1 then ⟨#[116, 97, 117]⟩ else if op = 2 then ⟨#[110, 103]⟩ else if op = 3 then ⟨#[110, 103, 116]⟩ else if op = 4 then ⟨#[110, 103, 97]⟩ else ⟨#[]⟩
def widE (i : Nat) : Nat := if i = 3 then 2 else if i = 6 then 1 else 4
def limE (k : Nat) : Nat := 256 ^ k
theorem strE_size (op : Nat) : (strE op).size = (shapeP op).length := by
  unfold strE shapeP
  repeat' split
  all_goals rfl
theorem strE_at (op k : Nat) (h : k < (shapeP op).length) : ∃ i, 3 ≤ i ∧ i ≤ 7 ∧ (shapeP op)[k]? = some (i, widE i) ∧ (strE op).data[k]? = some (UInt8.ofNat (chrE i)) := by
  by_cases h1 : op = 1
  · subst h1
    match k, h with
    | 0, _ => exact ⟨5, by decide, by decide, rfl, rfl⟩
    | 1, _ => exact ⟨6, by decide, by decide, rfl, rfl⟩
    | 2, _ => exact ⟨7, by decide, by decide, rfl, rfl⟩
  by_cases h2 : op = 2
  · subst h2
    match k, h with
    | 0, _ => exact ⟨3, by decide, by decide, rfl, rfl⟩
    | 1, _ => exact ⟨4, by decide, by decide, rfl, rfl⟩
  by_cases h3 : op = 3
  · subst h3
    match k, h with
    | 0, _ => exact ⟨3, by decide, by decide, rfl, rfl⟩
    | 1, _ => exact ⟨4, by decide, by decide, rfl, rfl⟩
    | 2, _ => exact ⟨5, by decide, by decide, rfl, rfl⟩
  by_cases h4 : op = 4
  · subst h4
    match k, h with
    | 0, _ => exact ⟨3, by decide, by decide, rfl, rfl⟩
    | 1, _ => exact ⟨4, by decide, by decide, rfl, rfl⟩
    | 2, _ => exact ⟨6, by decide, by decide, rfl, rfl⟩
  unfold shapeP at h
  rw [if_neg h1, if_neg h2, if_neg h3, if_neg h4] at h
  cases h

set_option maxHeartbeats 1000000 in
theorem ref22_Shape (op : Nat) (w : World) : Calls Tryz.prog 27 #[.int .i64 op] w fun e w' => e = .returned (.string (strE op)) ∧ w' = w := by
  unfold strE
  by_cases h1 : op = 1
  · subst h1
    go_enter Tryz.func27, Tryz.ntmps27
    go_wp2
    go_ret
    exact ⟨rfl, rfl⟩
  by_cases h2 : op = 2
  · subst h2
    go_enter Tryz.func27, Tryz.ntmps27
    go_wp2
    go_ret
    exact ⟨rfl, rfl⟩
  by_cases h3 : op = 3
  · subst h3
    go_enter Tryz.func27, Tryz.ntmps27
    go_wp2
    go_ret
    exact ⟨rfl, rfl⟩
  by_cases h4 : op = 4
  · subst h4
    go_enter Tryz.func27, Tryz.ntmps27
    go_wp2
    go_ret
    exact ⟨rfl, rfl⟩
  rw [if_neg h1, if_neg h2, if_neg h3, if_neg h4]
  have b1 : ((op : Int) == 1) = false := by simp; omega
  have b2 : ((op : Int) == 2) = false := by simp; omega
  have b3 : ((op : Int) == 3) = false := by simp; omega
  have b4 : ((op : Int) == 4) = false := by simp; omega
  clear h1 h2 h3 h4
  generalize (op : Int) = z at *
  go_enter Tryz.func27, Tryz.ntmps27
  go_wp2
  go_ret
  exact ⟨rfl, rfl⟩
set_option maxHeartbeats 1000000 in
theorem ref22_width (i : Nat) (h3 : 3 ≤ i) (h7 : i ≤ 7) (w : World) : Calls Tryz.prog 28 #[.int .u8 (chrE i : Nat)] w fun e w' => e = .returned (.int .i64 (widE i : Nat)) ∧ w' = w := by
  match i, h3, h7 with
  | 3, _, _ | 4, _, _ | 5, _, _ | 6, _, _ | 7, _, _ =>
    simp only [chrE, widE]
    go_enter Tryz.func28, Tryz.ntmps28
    go_wp2
    go_ret
    exact ⟨rfl, rfl⟩
set_option maxHeartbeats 400000 in
theorem ref22_in (i n : Int) (w : World) : Calls Tryz.prog 42 #[.int .i64 i, .int .i64 n] w fun e w' => e = .returned (.bool (decide (0 ≤ i ∧ i < n))) ∧ w' = w := by
  by_cases h0 : 0 ≤ i
  · by_cases h1 : i < n
    · have e : decide (0 ≤ i ∧ i < n) = true := by simp [h0, h1]
      rw [e]
      go_enter Tryz.func42, Tryz.ntmps42
      go_wp2
      go_ret
      exact ⟨rfl, rfl⟩
    · have e : decide (0 ≤ i ∧ i < n) = false := by simp [h1]
      rw [e]
      go_enter Tryz.func42, Tryz.ntmps42
      go_wp2
      go_ret
      exact ⟨rfl, rfl⟩
  · have e : decide (0 ≤ i ∧ i < n) = false := by simp [h0]
    rw [e]
    go_enter Tryz.func42, Tryz.ntmps42
    go_wp2
    go_ret
    exact ⟨rfl, rfl⟩
set_option maxHeartbeats 1000000 in
theorem ref22_limit (i : Nat) (h3 : 3 ≤ i) (h7 : i ≤ 7) (w : World) : Calls Tryz.prog 44 #[.int .i64 (widE i : Nat)] w fun e w' => e = .returned (.int .i64 (limE (widE i) : Nat)) ∧ w' = w := by
  have key : ∀ k : Nat, k ≤ 4 → Calls Tryz.prog 44 #[.int .i64 k] w fun e w' => e = .returned (.int .i64 (limE k : Nat)) ∧ w' = w := by
    intro k hk
    have HP : Hid (∀ j, j ≤ 4 → limE j ≤ 4294967296) := Go.Lib.hid (fun j hj => Nat.le_trans (Nat.pow_le_pow_right (by decide) hj) (by decide))
    go_enter Tryz.func44, Tryz.ntmps44
    go_wp2
    go_loop [3, 4] (fun N i => ∃ j : Nat, j ≤ k ∧ i = .int .i64 j ∧ N = .int .i64 (limE j : Nat)) (fun _ i => k - (intOf i).toNat)
    case atStart => exact ⟨0, Nat.zero_le _, rfl, rfl⟩
    case round =>
      obtain ⟨j, hj, rfl, rfl⟩ := hrel
      have h9 := HP.out j (by omega)
      have HE : Hid (limE (j + 1) = limE j * 256) := Go.Lib.hid (Nat.pow_succ _ _)
      by_cases hlt : j < k
      · generalize limE j = p at *
        have h10 : (p : Int) ≤ 4294967296 := by omega
        go_wp2
        go_round
        case rel => exact ⟨j + 1, by omega, by go_num, by rw [HE.out]; go_num⟩
        case measure => simp [intOf]; omega
      · have : j = k := by omega
        subst this
        clear HE
        generalize hp : limE j = p at *
        have HP2 := Go.Lib.hid hp
        clear hp
        go_wp2
        go_ret
        exact ⟨by rw [HP2.out]; rfl, rfl⟩
  match i, h3, h7 with
  | 3, _, _ => exact key 2 (by decide)
  | 4, _, _ => exact key 4 (by decide)
  | 5, _, _ => exact key 4 (by decide)
  | 6, _, _ => exact key 1 (by decide)
  | 7, _, _ => exact key 4 (by decide)
set_option maxHeartbeats 1000000 in
theorem ref22_get (e0 : Ent) (i : Nat) (h3 : 3 ≤ i) (h7 : i ≤ 7) (w : World) : Calls Tryz.prog 43 #[.agg #[.int .i64 e0.kind, .int .i64 e0.worker, .int .i64 e0.op, .int .i64 e0.node, .int .i64 e0.gen, .int .i64 e0.time, .int .i64 e0.arg, .int .i64 e0.user], .int .u8 (chrE i : Nat)] w fun e w' => e = .returned (.int .i64 (e0.get i)) ∧ Below w.heap.size w w' := by
  obtain ⟨a0, a1, a2, a3, a4, a5, a6, a7⟩ := e0
  match i, h3, h7 with
  | 3, _, _ | 4, _, _ | 5, _, _ | 6, _, _ | 7, _, _ =>
    simp only [chrE, Ent.get]
    go_enter Tryz.func43, Tryz.ntmps43
    go_wp2
    go_ret
    exact ⟨rfl, (Below.refl _ _).alloc (Nat.le_refl _) _⟩
set_option maxHeartbeats 2000000 in
theorem ref22_set (e0 : Ent) (i : Nat) (n : Int) (h3 : 3 ≤ i) (h7 : i ≤ 7) (w : World) : Calls Tryz.prog 29 #[.agg #[.int .i64 e0.kind, .int .i64 e0.worker, .int .i64 e0.op, .int .i64 e0.node, .int .i64 e0.gen, .int .i64 e0.time, .int .i64 e0.arg, .int .i64 e0.user], .int .u8 (chrE i : Nat), .int .i64 n] w fun e w' => e = .returned (.agg #[.int .i64 (e0.set i n).kind, .int .i64 (e0.set i n).worker, .int .i64 (e0.set i n).op, .int .i64 (e0.set i n).node, .int .i64 (e0.set i n).gen, .int .i64 (e0.set i n).time, .int .i64 (e0.set i n).arg, .int .i64 (e0.set i n).user]) ∧ Below w.heap.size w w' := by
  obtain ⟨a0, a1, a2, a3, a4, a5, a6, a7⟩ := e0
  match i, h3, h7 with
  | 3, _, _ =>
    simp only [chrE, Ent.set]
    go_enter Tryz.func29, Tryz.ntmps29
    go_wp2
    exact bodyPost_ret (v := .agg #[.int .i64 a0, .int .i64 a1, .int .i64 a2, .int .i64 n, .int .i64 a4, .int .i64 a5, .int .i64 a6, .int .i64 a7]) (by simp [results, Tryz.results29, go_sem]) rfl ⟨rfl, ((Below.refl _ _).alloc (Nat.le_refl _) _).alloc (by simp) _⟩
  | 4, _, _ =>
    simp only [chrE, Ent.set]
    go_enter Tryz.func29, Tryz.ntmps29
    go_wp2
    exact bodyPost_ret (v := .agg #[.int .i64 a0, .int .i64 a1, .int .i64 a2, .int .i64 a3, .int .i64 n, .int .i64 a5, .int .i64 a6, .int .i64 a7]) (by simp [results, Tryz.results29, go_sem]) rfl ⟨rfl, ((Below.refl _ _).alloc (Nat.le_refl _) _).alloc (by simp) _⟩
  | 5, _, _ =>
    simp only [chrE, Ent.set]
    go_enter Tryz.func29, Tryz.ntmps29
    go_wp2
    exact bodyPost_ret (v := .agg #[.int .i64 a0, .int .i64 a1, .int .i64 a2, .int .i64 a3, .int .i64 a4, .int .i64 n, .int .i64 a6, .int .i64 a7]) (by simp [results, Tryz.results29, go_sem]) rfl ⟨rfl, ((Below.refl _ _).alloc (Nat.le_refl _) _).alloc (by simp) _⟩
  | 6, _, _ =>
    simp only [chrE, Ent.set]
    go_enter Tryz.func29, Tryz.ntmps29
    go_wp2
    exact bodyPost_ret (v := .agg #[.int .i64 a0, .int .i64 a1, .int .i64 a2, .int .i64 a3, .int .i64 a4, .int .i64 a5, .int .i64 n, .int .i64 a7]) (by simp [results, Tryz.results29, go_sem]) rfl ⟨rfl, ((Below.refl _ _).alloc (Nat.le_refl _) _).alloc (by simp) _⟩
  | 7, _, _ =>
    simp only [chrE, Ent.set]
    go_enter Tryz.func29, Tryz.ntmps29
    go_wp2
    exact bodyPost_ret (v := .agg #[.int .i64 a0, .int .i64 a1, .int .i64 a2, .int .i64 a3, .int .i64 a4, .int .i64 a5, .int .i64 a6, .int .i64 n]) (by simp [results, Tryz.results29, go_sem]) rfl ⟨rfl, ((Below.refl _ _).alloc (Nat.le_refl _) _).alloc (by simp) _⟩
theorem own_empty (w : World) (e : TypeId) (size : Nat) : (w.alloc (.cells #[] e)).ownsRow w.heap.size e size (.slice (some ⟨w.heap.size, 0, none⟩) 0 0) 0 [] :=
  ⟨by simp, .inr ⟨w.heap.size, 0, #[], rfl, Nat.le_refl _, heap_alloc_new _ _, Nat.le_refl _, Nat.zero_le _, by simp, by simp⟩⟩
set_option maxHeartbeats 2000000 in
theorem ref22_Bytes (n : Int) (hn : -9223372036854775808 ≤ n ∧ n ≤ 9223372036854775807) (k : Nat) (hk4 : k ≤ 4) (w : World) :
    Calls Tryz.prog 20 #[.int .i64 n, .int .i64 k] w fun e w' => ∃ (v : Value) (bs : List Nat), e = .returned v ∧ bs.length = k ∧ (0 ≤ n → bs = bytesL n.toNat k) ∧ w'.ownsRow w.heap.size 5 1 v bs.length (bs.map fun (x : Nat) => Value.int .u8 (x : Int)) ∧ Below w.heap.size w w' := by
  have hinfo : (Tryz.prog.info? 5).map (fun i => (i.zero, i.size, i.bytes)) = some (some (.int .u8 0), 1, 1) := by kernel_rfl
  obtain ⟨i0, hi0, hz0, hz1, hz2⟩ := info_parts hinfo
  have hund : Tryz.prog.underlying 24 = some (.slice 5) := by kernel_rfl
  go_enter Tryz.func20, Tryz.ntmps20
  go_wp2
  have HO0 := Go.Lib.hid (own_empty w 5 1)
  have HT0 : Hid (OntoT w.heap.size 5 w (w.alloc (.cells #[] 5))) := Go.Lib.hid ((OntoT.refl _ _ _).alloc (Nat.le_refl _) _)
  generalize w.alloc (.cells #[] 5) = W0 at *
  go_loopw [0, 5, 6] (fun u0 u5 u6 wr => ∃ (j : Nat) (m : Int) (bs : List Nat), u0 = .int .i64 m ∧ u6 = .int .i64 j ∧ j ≤ k ∧ (-9223372036854775808 ≤ m ∧ m ≤ 9223372036854775807) ∧ bs.length = j ∧ (0 ≤ n → 0 ≤ m ∧ bs ++ bytesL m.toNat (k - j) = bytesL n.toNat k) ∧ wr.ownsRow w.heap.size 5 1 u5 bs.length (bs.map fun (x : Nat) => Value.int .u8 (x : Int)) ∧ OntoT w.heap.size 5 w wr) (fun _ _ i _ => k - (intOf i).toNat)
  case atStart => exact ⟨0, n, [], rfl, rfl, Nat.zero_le _, hn, rfl, fun h => ⟨h, rfl⟩, HO0.out, HT0.out⟩
  case round =>
    obtain ⟨j, m, bs, rfl, rfl, hj, ⟨hm1, hm2⟩, hbs, hbm, hown, hto⟩ := hrel
    obtain ⟨a, c, rfl⟩ := own_form hown
    have HOW := Go.Lib.hid hown
    have HTO := Go.Lib.hid hto
    have HBM := Go.Lib.hid hbm
    clear hown hto hbm HO0 HT0
    by_cases hlt : j < k
    · obtain ⟨x, hx⟩ : ∃ x : Nat, m.tmod 256 % 256 = (x : Int) := ⟨(m.tmod 256 % 256).toNat, by omega⟩
      have HX := Go.Lib.hid hx
      have HXN : Hid (0 ≤ m → x = m.toNat % 256 ∧ (m.tdiv 256).toNat = m.toNat / 256 ∧ 0 ≤ m.tdiv 256) := Go.Lib.hid (fun h0 => by
        rw [Int.tmod_eq_emod_of_nonneg h0] at hx
        rw [Int.tdiv_eq_ediv_of_nonneg h0]
        omega)
      have hbm2 : -9223372036854775808 ≤ m.tdiv 256 ∧ m.tdiv 256 ≤ 9223372036854775807 := by
        rcases Int.le_total 0 m with h0 | h0
        · rw [Int.tdiv_eq_ediv_of_nonneg h0]; omega
        · have h1 : m.tdiv 256 = -((-m).tdiv 256) := by rw [Int.neg_tdiv, Int.neg_neg]
          rw [h1, Int.tdiv_eq_ediv_of_nonneg (by omega)]
          omega
      clear hx
      have HTA : Hid (OntoT w.heap.size 5 w (wr.alloc (.cells #[.int .u8 (m.tmod 256 % 256)] 5))) := Go.Lib.hid (HTO.out.alloc HTO.out.size _)
      have HSZ := Go.Lib.hid HTO.out.size
      go_wp2_with (first
        | (at_builtin; refine wpList_append_own _ rfl _ _ 24 rfl w.heap.size 5 i0 _ 1 1 hund hi0 hz0 hz1 hz2 rfl (by decide) _ bs.length (bs.map fun (x : Nat) => Value.int .u8 (x : Int)) rfl (HOW.out.alloc _) ⟨wr.heap.size, 0, none⟩ 1 1 [.int .u8 (m.tmod 256 % 256)] rfl rfl (World.news_of_block (cs := #[.int .u8 (m.tmod 256 % 256)]) (t := 5) (fr := (0, 0)) (heap_alloc_new _ _)) (by simp [Value.oneCell']) (by unfold maxLen; omega) (by omega) (by have := HSZ.out; rw [World.size_alloc]; omega) ?_; intro v1 w1 hown1 hgrow1 hnil1; have HT1 := Go.Lib.hid (HTA.out.grown (HOW.out.alloc _) hgrow1 (by have := HSZ.out; rw [World.size_alloc]; omega) (Nat.le_refl _)); have HO1 := Go.Lib.hid hown1; clear hown1 hgrow1 hnil1)
        | fail)
      go_roundw
      case rel => exact ⟨j + 1, m.tdiv 256, bs ++ [x], by first | rfl | go_num, by go_num, by omega, hbm2, by simp [hbs], fun h => by
          obtain ⟨q0, q1⟩ := HBM.out h
          obtain ⟨q2, q3, q4⟩ := HXN.out q0
          refine ⟨q4, ?_⟩
          rw [q2, q3, ← q1, show k - j = k - (j + 1) + 1 by omega, bytesL, List.append_assoc]
          rfl, by have := HO1.out; rw [HX.out] at this; simpa using this, HT1.out⟩
      case measure => simp [intOf]; omega
    · have hjk : j = k := by omega
      go_wp2
      go_ret
      exact ⟨_, bs, rfl, hbs.trans hjk, fun h => by have := (HBM.out h).2; rw [hjk, Nat.sub_self] at this; rw [← this]; simp [bytesL], HOW.out, HTO.out.below⟩
end Go.Proofs.YtdemhabgaimnmaaGreatDoor
/- Script: the parts of an entry, runs of entries, an entry. -/
namespace Go.Proofs.YtdemhabgaimnmaaGreatDoor
open Go.RowKit
set_option maxRecDepth 100000
set_option linter.unusedVariables false

def atN (i : Nat) : Nat := if i = 3 then 57 else if i = 4 then 58 else if i = 5 then 59 else if i = 6 then 60 else 61
/-- The parts of an entry in memory. -/
def PartsAt (base : Nat) (w : World) (v : Value) (ps : List (Nat × Nat)) : Prop := ∃ p c, v = .slice p ps.length c ∧ ∀ (j i k : Nat), ps[j]? = some (i, k) → ∃ g, base ≤ g ∧ p = some ⟨g, 0, none⟩ ∧ w.cell? ⟨g, j * 2, none⟩ = some (.func (.func (atN i)) #[] #[]) ∧ w.cell? ⟨g, j * 2 + 1, none⟩ = some (.int .i64 (k : Nat))
theorem PartsAt.below {base : Nat} {w w' : World} {v : Value} {ps : List (Nat × Nat)} (h : PartsAt base w v ps) (hb : Below w.heap.size w w') : PartsAt base w' v ps := by
  obtain ⟨p, c, rfl, h1⟩ := h
  refine ⟨p, c, rfl, fun j i k hj => ?_⟩
  obtain ⟨g, e0, e, h2, h3⟩ := h1 j i k hj
  exact ⟨g, e0, e, below_cell hb h2, below_cell hb h3⟩
theorem PartsAt.set {base : Nat} {w : World} {v u : Value} {ps : List (Nat × Nat)} {a : Addr} (h : PartsAt base w v ps) (ha : a.block < base) : PartsAt base (w.setCell a u) v ps := by
  obtain ⟨p, c, rfl, h1⟩ := h
  refine ⟨p, c, rfl, fun j i k hj => ?_⟩
  obtain ⟨g, e0, e, h2, h3⟩ := h1 j i k hj
  exact ⟨g, e0, e, (World.cell?_setCell_other _ _ _ _ (by intro q; subst q; simp at ha; omega)).trans h2, (World.cell?_setCell_other _ _ _ _ (by intro q; subst q; simp at ha; omega)).trans h3⟩

theorem parts_at3 (b : Nat) (w : World) : Calls Tryz.prog 57 #[.pointer (some ⟨b, 0, none⟩)] w fun e w' => e = .returned (.pointer (some ⟨b, 3, none⟩)) ∧ w' = w := by
  go_enter Tryz.func57, Tryz.ntmps57
  go_wp2
  go_ret
  exact ⟨rfl, rfl⟩
theorem parts_at4 (b : Nat) (w : World) : Calls Tryz.prog 58 #[.pointer (some ⟨b, 0, none⟩)] w fun e w' => e = .returned (.pointer (some ⟨b, 4, none⟩)) ∧ w' = w := by
  go_enter Tryz.func58, Tryz.ntmps58
  go_wp2
  go_ret
  exact ⟨rfl, rfl⟩
theorem parts_at5 (b : Nat) (w : World) : Calls Tryz.prog 59 #[.pointer (some ⟨b, 0, none⟩)] w fun e w' => e = .returned (.pointer (some ⟨b, 5, none⟩)) ∧ w' = w := by
  go_enter Tryz.func59, Tryz.ntmps59
  go_wp2
  go_ret
  exact ⟨rfl, rfl⟩
theorem parts_at6 (b : Nat) (w : World) : Calls Tryz.prog 60 #[.pointer (some ⟨b, 0, none⟩)] w fun e w' => e = .returned (.pointer (some ⟨b, 6, none⟩)) ∧ w' = w := by
  go_enter Tryz.func60, Tryz.ntmps60
  go_wp2
  go_ret
  exact ⟨rfl, rfl⟩
theorem parts_at7 (b : Nat) (w : World) : Calls Tryz.prog 61 #[.pointer (some ⟨b, 0, none⟩)] w fun e w' => e = .returned (.pointer (some ⟨b, 7, none⟩)) ∧ w' = w := by
  go_enter Tryz.func61, Tryz.ntmps61
  go_wp2
  go_ret
  exact ⟨rfl, rfl⟩
theorem parts_at (i b : Nat) (h3 : 3 ≤ i) (h7 : i ≤ 7) (w : World) : Calls Tryz.prog (atN i) #[.pointer (some ⟨b, 0, none⟩)] w fun e w' => e = .returned (.pointer (some ⟨b, i, none⟩)) ∧ w' = w := by
  match i, h3, h7 with
  | 3, _, _ => exact parts_at3 b w
  | 4, _, _ => exact parts_at4 b w
  | 5, _, _ => exact parts_at5 b w
  | 6, _, _ => exact parts_at6 b w
  | 7, _, _ => exact parts_at7 b w
theorem parts_enter (i : Nat) (h3 : 3 ≤ i) (h7 : i ≤ 7) (args : Array Value) (w : World) : (callFunc (atN i) args).run Tryz.prog w = .ok (.enter (atN i) args) w := by
  match i, h3, h7 with
  | 3, _, _ => exact (show (callFunc 57 args).run Tryz.prog w = .ok (.enter 57 args) w by kernel_rfl)
  | 4, _, _ => exact (show (callFunc 58 args).run Tryz.prog w = .ok (.enter 58 args) w by kernel_rfl)
  | 5, _, _ => exact (show (callFunc 59 args).run Tryz.prog w = .ok (.enter 59 args) w by kernel_rfl)
  | 6, _, _ => exact (show (callFunc 60 args).run Tryz.prog w = .ok (.enter 60 args) w by kernel_rfl)
  | 7, _, _ => exact (show (callFunc 61 args).run Tryz.prog w = .ok (.enter 61 args) w by kernel_rfl)
  
set_option maxHeartbeats 1000000 in
theorem script_parts1 (w : World) : Calls Tryz.prog 46 #[.int .i64 1] w fun e w' => ∃ v, e = .returned v ∧ PartsAt w.heap.size w' v (shapeP 1) ∧ Below w.heap.size w w' := by
  go_enter Tryz.func46, Tryz.ntmps46
  go_wp2
  go_ret
  have hr := heap_alloc_new (((((w.alloc (.cells #[.func (.func 57) #[] #[], .int .i64 2] 105)).alloc (.cells #[.func (.func 58) #[] #[], .int .i64 4] 105)).alloc (.cells #[.func (.func 59) #[] #[], .int .i64 4] 105)).alloc (.cells #[.func (.func 60) #[] #[], .int .i64 1] 105)).alloc (.cells #[.func (.func 61) #[] #[], .int .i64 4] 105)) (.cells #[.func (.func 59) #[] #[], .int .i64 4, .func (.func 60) #[] #[], .int .i64 1, .func (.func 61) #[] #[], .int .i64 4] 105)
  rw [show (((((w.alloc (.cells #[.func (.func 57) #[] #[], .int .i64 2] 105)).alloc (.cells #[.func (.func 58) #[] #[], .int .i64 4] 105)).alloc (.cells #[.func (.func 59) #[] #[], .int .i64 4] 105)).alloc (.cells #[.func (.func 60) #[] #[], .int .i64 1] 105)).alloc (.cells #[.func (.func 61) #[] #[], .int .i64 4] 105)).heap.size = w.heap.size + 1 + 1 + 1 + 1 + 1 by simp] at hr
  refine ⟨_, rfl, ⟨_, _, rfl, fun j i k hj => ⟨_, ?_, rfl, ?_⟩⟩, ?_⟩
  · omega
  · match j, hj with
    | 0, hj => cases hj; exact ⟨cell_of_row _ _ _ _ _ _ hr, cell_of_row _ _ _ _ _ _ hr⟩
    | 1, hj => cases hj; exact ⟨cell_of_row _ _ _ _ _ _ hr, cell_of_row _ _ _ _ _ _ hr⟩
    | 2, hj => cases hj; exact ⟨cell_of_row _ _ _ _ _ _ hr, cell_of_row _ _ _ _ _ _ hr⟩
  · exact (((((((Below.refl _ _).alloc (by exact Nat.le_refl _) _).alloc (by first | (simp; done) | (simp; omega)) _).alloc (by first | (simp; done) | (simp; omega)) _).alloc (by first | (simp; done) | (simp; omega)) _).alloc (by first | (simp; done) | (simp; omega)) _).alloc (by first | (simp; done) | (simp; omega)) _)
set_option maxHeartbeats 1000000 in
theorem script_parts2 (w : World) : Calls Tryz.prog 46 #[.int .i64 2] w fun e w' => ∃ v, e = .returned v ∧ PartsAt w.heap.size w' v (shapeP 2) ∧ Below w.heap.size w w' := by
  go_enter Tryz.func46, Tryz.ntmps46
  go_wp2
  go_ret
  have hr := heap_alloc_new (((((w.alloc (.cells #[.func (.func 57) #[] #[], .int .i64 2] 105)).alloc (.cells #[.func (.func 58) #[] #[], .int .i64 4] 105)).alloc (.cells #[.func (.func 59) #[] #[], .int .i64 4] 105)).alloc (.cells #[.func (.func 60) #[] #[], .int .i64 1] 105)).alloc (.cells #[.func (.func 61) #[] #[], .int .i64 4] 105)) (.cells #[.func (.func 57) #[] #[], .int .i64 2, .func (.func 58) #[] #[], .int .i64 4] 105)
  rw [show (((((w.alloc (.cells #[.func (.func 57) #[] #[], .int .i64 2] 105)).alloc (.cells #[.func (.func 58) #[] #[], .int .i64 4] 105)).alloc (.cells #[.func (.func 59) #[] #[], .int .i64 4] 105)).alloc (.cells #[.func (.func 60) #[] #[], .int .i64 1] 105)).alloc (.cells #[.func (.func 61) #[] #[], .int .i64 4] 105)).heap.size = w.heap.size + 1 + 1 + 1 + 1 + 1 by simp] at hr
  refine ⟨_, rfl, ⟨_, _, rfl, fun j i k hj => ⟨_, ?_, rfl, ?_⟩⟩, ?_⟩
  · omega
  · match j, hj with
    | 0, hj => cases hj; exact ⟨cell_of_row _ _ _ _ _ _ hr, cell_of_row _ _ _ _ _ _ hr⟩
    | 1, hj => cases hj; exact ⟨cell_of_row _ _ _ _ _ _ hr, cell_of_row _ _ _ _ _ _ hr⟩
  · exact (((((((Below.refl _ _).alloc (by exact Nat.le_refl _) _).alloc (by first | (simp; done) | (simp; omega)) _).alloc (by first | (simp; done) | (simp; omega)) _).alloc (by first | (simp; done) | (simp; omega)) _).alloc (by first | (simp; done) | (simp; omega)) _).alloc (by first | (simp; done) | (simp; omega)) _)
set_option maxHeartbeats 1000000 in
theorem script_parts3 (w : World) : Calls Tryz.prog 46 #[.int .i64 3] w fun e w' => ∃ v, e = .returned v ∧ PartsAt w.heap.size w' v (shapeP 3) ∧ Below w.heap.size w w' := by
  go_enter Tryz.func46, Tryz.ntmps46
  go_wp2
  go_ret
  have hr := heap_alloc_new (((((w.alloc (.cells #[.func (.func 57) #[] #[], .int .i64 2] 105)).alloc (.cells #[.func (.func 58) #[] #[], .int .i64 4] 105)).alloc (.cells #[.func (.func 59) #[] #[], .int .i64 4] 105)).alloc (.cells #[.func (.func 60) #[] #[], .int .i64 1] 105)).alloc (.cells #[.func (.func 61) #[] #[], .int .i64 4] 105)) (.cells #[.func (.func 57) #[] #[], .int .i64 2, .func (.func 58) #[] #[], .int .i64 4, .func (.func 59) #[] #[], .int .i64 4] 105)
  rw [show (((((w.alloc (.cells #[.func (.func 57) #[] #[], .int .i64 2] 105)).alloc (.cells #[.func (.func 58) #[] #[], .int .i64 4] 105)).alloc (.cells #[.func (.func 59) #[] #[], .int .i64 4] 105)).alloc (.cells #[.func (.func 60) #[] #[], .int .i64 1] 105)).alloc (.cells #[.func (.func 61) #[] #[], .int .i64 4] 105)).heap.size = w.heap.size + 1 + 1 + 1 + 1 + 1 by simp] at hr
  refine ⟨_, rfl, ⟨_, _, rfl, fun j i k hj => ⟨_, ?_, rfl, ?_⟩⟩, ?_⟩
  · omega
  · match j, hj with
    | 0, hj => cases hj; exact ⟨cell_of_row _ _ _ _ _ _ hr, cell_of_row _ _ _ _ _ _ hr⟩
    | 1, hj => cases hj; exact ⟨cell_of_row _ _ _ _ _ _ hr, cell_of_row _ _ _ _ _ _ hr⟩
    | 2, hj => cases hj; exact ⟨cell_of_row _ _ _ _ _ _ hr, cell_of_row _ _ _ _ _ _ hr⟩
  · exact (((((((Below.refl _ _).alloc (by exact Nat.le_refl _) _).alloc (by first | (simp; done) | (simp; omega)) _).alloc (by first | (simp; done) | (simp; omega)) _).alloc (by first | (simp; done) | (simp; omega)) _).alloc (by first | (simp; done) | (simp; omega)) _).alloc (by first | (simp; done) | (simp; omega)) _)
set_option maxHeartbeats 1000000 in
theorem script_parts4 (w : World) : Calls Tryz.prog 46 #[.int .i64 4] w fun e w' => ∃ v, e = .returned v ∧ PartsAt w.heap.size w' v (shapeP 4) ∧ Below w.heap.size w w' := by
  go_enter Tryz.func46, Tryz.ntmps46
  go_wp2
  go_ret
  have hr := heap_alloc_new (((((w.alloc (.cells #[.func (.func 57) #[] #[], .int .i64 2] 105)).alloc (.cells #[.func (.func 58) #[] #[], .int .i64 4] 105)).alloc (.cells #[.func (.func 59) #[] #[], .int .i64 4] 105)).alloc (.cells #[.func (.func 60) #[] #[], .int .i64 1] 105)).alloc (.cells #[.func (.func 61) #[] #[], .int .i64 4] 105)) (.cells #[.func (.func 57) #[] #[], .int .i64 2, .func (.func 58) #[] #[], .int .i64 4, .func (.func 60) #[] #[], .int .i64 1] 105)
  rw [show (((((w.alloc (.cells #[.func (.func 57) #[] #[], .int .i64 2] 105)).alloc (.cells #[.func (.func 58) #[] #[], .int .i64 4] 105)).alloc (.cells #[.func (.func 59) #[] #[], .int .i64 4] 105)).alloc (.cells #[.func (.func 60) #[] #[], .int .i64 1] 105)).alloc (.cells #[.func (.func 61) #[] #[], .int .i64 4] 105)).heap.size = w.heap.size + 1 + 1 + 1 + 1 + 1 by simp] at hr
  refine ⟨_, rfl, ⟨_, _, rfl, fun j i k hj => ⟨_, ?_, rfl, ?_⟩⟩, ?_⟩
  · omega
  · match j, hj with
    | 0, hj => cases hj; exact ⟨cell_of_row _ _ _ _ _ _ hr, cell_of_row _ _ _ _ _ _ hr⟩
    | 1, hj => cases hj; exact ⟨cell_of_row _ _ _ _ _ _ hr, cell_of_row _ _ _ _ _ _ hr⟩
    | 2, hj => cases hj; exact ⟨cell_of_row _ _ _ _ _ _ hr, cell_of_row _ _ _ _ _ _ hr⟩
  · exact (((((((Below.refl _ _).alloc (by exact Nat.le_refl _) _).alloc (by first | (simp; done) | (simp; omega)) _).alloc (by first | (simp; done) | (simp; omega)) _).alloc (by first | (simp; done) | (simp; omega)) _).alloc (by first | (simp; done) | (simp; omega)) _).alloc (by first | (simp; done) | (simp; omega)) _)
set_option maxHeartbeats 1000000 in
theorem script_parts0 (op : Nat) (h1 : op ≠ 1) (h2 : op ≠ 2) (h3 : op ≠ 3) (h4 : op ≠ 4) (w : World) : Calls Tryz.prog 46 #[.int .i64 op] w fun e w' => ∃ v, e = .returned v ∧ PartsAt w.heap.size w' v (shapeP op) ∧ Below w.heap.size w w' := by
  have hs : shapeP op = [] := by unfold shapeP; rw [if_neg h1, if_neg h2, if_neg h3, if_neg h4]
  rw [hs]
  have b1 : ((op : Int) == 1) = false := by simp; omega
  have b2 : ((op : Int) == 2) = false := by simp; omega
  have b3 : ((op : Int) == 3) = false := by simp; omega
  have b4 : ((op : Int) == 4) = false := by simp; omega
  clear h1 h2 h3 h4 hs
  generalize (op : Int) = z at *
  go_enter Tryz.func46, Tryz.ntmps46
  go_wp2
  go_ret
  exact ⟨_, rfl, ⟨_, _, rfl, fun j i k hj => by cases hj⟩, ((((((Below.refl _ _).alloc (Nat.le_refl _) _).alloc (by simp) _).alloc (by first | (simp; done) | (simp; omega)) _).alloc (by first | (simp; done) | (simp; omega)) _).alloc (by first | (simp; done) | (simp; omega)) _)⟩
theorem script_parts (op : Nat) (w : World) : Calls Tryz.prog 46 #[.int .i64 op] w fun e w' => ∃ v, e = .returned v ∧ PartsAt w.heap.size w' v (shapeP op) ∧ Below w.heap.size w w' := by
  by_cases h1 : op = 1
  · subst h1; exact script_parts1 w
  by_cases h2 : op = 2
  · subst h2; exact script_parts2 w
  by_cases h3 : op = 3
  · subst h3; exact script_parts3 w
  by_cases h4 : op = 4
  · subst h4; exact script_parts4 w
  exact script_parts0 op h1 h2 h3 h4 w
set_option maxHeartbeats 2000000 in
theorem script_repeat (e0 : Ent) (t : Nat) (ht : t ≤ 64) (w : World) : Calls Tryz.prog 45 #[.agg #[.int .i64 e0.kind, .int .i64 e0.worker, .int .i64 e0.op, .int .i64 e0.node, .int .i64 e0.gen, .int .i64 e0.time, .int .i64 e0.arg, .int .i64 e0.user], .int .i64 t] w fun e w' => ∃ v, e = .returned v ∧ w'.ownsRow (w.heap.size + 1) 56 8 v t (((List.replicate t e0).map Ent.cells).flatten) ∧ Below w.heap.size w w' := by
  have hinfo : (Tryz.prog.info? 56).map (fun i => (i.zero, i.size, i.bytes)) = some (some (.agg #[.int .i64 0, .int .i64 0, .int .i64 0, .int .i64 0, .int .i64 0, .int .i64 0, .int .i64 0, .int .i64 0]), 8, 64) := by kernel_rfl
  obtain ⟨i0, hi0, hz0, hz1, hz2⟩ := info_parts hinfo
  have hund : Tryz.prog.underlying 30 = some (.slice 56) := by kernel_rfl
  have HR : Hid (∀ j, ((List.replicate (j + 1) e0).map Ent.cells).flatten = ((List.replicate j e0).map Ent.cells).flatten ++ e0.cells) := Go.Lib.hid (fun j => by rw [List.replicate_succ', List.map_append, List.flatten_append]; simp)
  have HC : Hid (e0.cells = [.int .i64 e0.kind, .int .i64 e0.worker, .int .i64 e0.op, .int .i64 e0.node, .int .i64 e0.gen, .int .i64 e0.time, .int .i64 e0.arg, .int .i64 e0.user]) := Go.Lib.hid rfl
  obtain ⟨a0, a1, a2, a3, a4, a5, a6, a7⟩ := e0
  dsimp only at HC ⊢
  generalize hE : (Ent.mk a0 a1 a2 a3 a4 a5 a6 a7) = E0 at *
  clear hE
  have hb0 : Below w.heap.size w (w.alloc (.cells #[.int .i64 a0, .int .i64 a1, .int .i64 a2, .int .i64 a3, .int .i64 a4, .int .i64 a5, .int .i64 a6, .int .i64 a7] 56)) := (Below.refl _ _).alloc (Nat.le_refl _) _
  have HB0 := Go.Lib.hid hb0
  have hrow := heap_alloc_new w (.cells #[.int .i64 a0, .int .i64 a1, .int .i64 a2, .int .i64 a3, .int .i64 a4, .int .i64 a5, .int .i64 a6, .int .i64 a7] 56)
  go_enter Tryz.func45, Tryz.ntmps45
  go_wp2
  have HSZ : Hid (w.heap.size + 1 = (w.alloc (.cells #[.int .i64 a0, .int .i64 a1, .int .i64 a2, .int .i64 a3, .int .i64 a4, .int .i64 a5, .int .i64 a6, .int .i64 a7] 56)).heap.size) := Go.Lib.hid (by simp)
  have HRO := Go.Lib.hid hrow
  clear hrow hb0
  generalize (w.alloc (.cells #[.int .i64 a0, .int .i64 a1, .int .i64 a2, .int .i64 a3, .int .i64 a4, .int .i64 a5, .int .i64 a6, .int .i64 a7] 56)) = W0 at *
  go_loopw [5, 7] (fun u5 u7 wr => ∃ (j : Nat), u7 = .int .i64 j ∧ j ≤ t ∧ wr.ownsRow (w.heap.size + 1) 56 8 u5 j (((List.replicate j E0).map Ent.cells).flatten) ∧ OntoT (w.heap.size + 1) 56 W0 wr) (fun _ i _ => t - (intOf i).toNat)
  case atStart => exact ⟨0, rfl, Nat.zero_le _, World.ownsRow_nil _ _ _ _, OntoT.refl _ _ _⟩
  case round =>
    obtain ⟨j, rfl, hj, hown, hto⟩ := hrel
    obtain ⟨a, c, rfl⟩ := own_form hown
    have HOW := Go.Lib.hid hown
    have HTO := Go.Lib.hid hto
    have r0 := (hto.below.block w.heap.size (Nat.lt_succ_self _)).trans HRO.out
    have hsz := hto.size
    rw [← HSZ.out] at hsz
    have HTA : Hid (OntoT (w.heap.size + 1) 56 W0 (wr.alloc (.cells #[.int .i64 a0, .int .i64 a1, .int .i64 a2, .int .i64 a3, .int .i64 a4, .int .i64 a5, .int .i64 a6, .int .i64 a7] 56))) := Go.Lib.hid (HTO.out.alloc hsz _)
    have c0 : wr.cell? ⟨w.heap.size, 0, none⟩ = some (.int .i64 a0) := cell_of_row _ _ _ _ _ _ r0
    have c1 : wr.cell? ⟨w.heap.size, 1, none⟩ = some (.int .i64 a1) := cell_of_row _ _ _ _ _ _ r0
    have c2 : wr.cell? ⟨w.heap.size, 2, none⟩ = some (.int .i64 a2) := cell_of_row _ _ _ _ _ _ r0
    have c3 : wr.cell? ⟨w.heap.size, 3, none⟩ = some (.int .i64 a3) := cell_of_row _ _ _ _ _ _ r0
    have c4 : wr.cell? ⟨w.heap.size, 4, none⟩ = some (.int .i64 a4) := cell_of_row _ _ _ _ _ _ r0
    have c5 : wr.cell? ⟨w.heap.size, 5, none⟩ = some (.int .i64 a5) := cell_of_row _ _ _ _ _ _ r0
    have c6 : wr.cell? ⟨w.heap.size, 6, none⟩ = some (.int .i64 a6) := cell_of_row _ _ _ _ _ _ r0
    have c7 : wr.cell? ⟨w.heap.size, 7, none⟩ = some (.int .i64 a7) := cell_of_row _ _ _ _ _ _ r0
    clear hown hto r0
    by_cases hlt : j < t
    · go_wp2_with (first
        | (at_builtin; refine wpList_append_own _ rfl _ _ 30 rfl (w.heap.size + 1) 56 i0 _ 8 64 hund hi0 hz0 hz1 hz2 rfl (by decide) _ j (((List.replicate j E0).map Ent.cells).flatten) rfl (HOW.out.alloc _) ⟨wr.heap.size, 0, none⟩ 1 1 [.int .i64 a0, .int .i64 a1, .int .i64 a2, .int .i64 a3, .int .i64 a4, .int .i64 a5, .int .i64 a6, .int .i64 a7] rfl rfl (World.news_of_block (cs := #[.int .i64 a0, .int .i64 a1, .int .i64 a2, .int .i64 a3, .int .i64 a4, .int .i64 a5, .int .i64 a6, .int .i64 a7]) (t := 56) (fr := (0, 0)) (heap_alloc_new _ _)) (by simp [Value.oneCell']) (by unfold maxLen; omega) (by omega) (by rw [World.size_alloc]; omega) ?_; intro v1 w1 hown1 hgrow1 hnil1; have HT1 := Go.Lib.hid (HTA.out.grown (HOW.out.alloc _) hgrow1 (by rw [World.size_alloc]; omega) (Nat.le_refl _)); have HO1 := Go.Lib.hid hown1; clear hown1 hgrow1 hnil1)
        | fail)
      go_roundw
      case rel => exact ⟨j + 1, by go_num, by omega, by have := HO1.out; rw [HR.out, HC.out]; exact this, HT1.out⟩
      case measure => simp [intOf]; omega
    · have hjt : j = t := by omega
      subst hjt
      go_wp2
      go_ret
      exact ⟨_, rfl, HOW.out, HB0.out.trans (HTO.out.below.mono (Nat.le_succ _))⟩
end Go.Proofs.YtdemhabgaimnmaaGreatDoor
