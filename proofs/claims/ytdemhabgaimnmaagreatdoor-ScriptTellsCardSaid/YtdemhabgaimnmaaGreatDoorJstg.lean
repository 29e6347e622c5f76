/- Script: an entry taken off bytes. -/
import Derived.Test.YtdemhabgaimnmaaGreatDoorJstf
import Derived.Deep.QuietTactic
import Derived.BigQuiet
import Derived.Deep.Cut
import Derived.Deep.CutRange
import Derived.Deep.MidRow
namespace Go.Proofs.YtdemhabgaimnmaaGreatDoor
open Go.RowKit
set_option maxRecDepth 100000
set_option linter.unusedVariables false

/-- Bytes below a block. -/
def KBb (B : Nat) (w : World) (v : Value) (l : List Nat) : Prop := KB (fun b => b < B) w v l
theorem KBb.below {B : Nat} {w w' : World} {v : Value} {l : List Nat} (h : KBb B w v l) (hB : B ≤ w.heap.size) (hb : Below w.heap.size w w') : KBb B w' v l := KB.keep h (fun b hk => hb.block b (by omega))
theorem KBb.heap {B : Nat} {w w' : World} {v : Value} {l : List Nat} (h : KBb B w v l) (hb : w'.heap = w.heap) : KBb B w' v l := KB.keep h (fun b hk => by rw [hb])
theorem own_below {w w' : World} {base k n : Nat} {e : TypeId} {v : Value} {xs : List Value} (h : w.ownsRow base e k v n xs) (hb : Below w.heap.size w w') : w'.ownsRow base e k v n xs := by
  refine ⟨h.1, ?_⟩
  rcases h.2 with h | ⟨g, c, cur, e0, hg, h2, h3⟩
  · exact .inl h
  · exact .inr ⟨g, c, cur, e0, hg, (hb.block g (heap_lt0 h2)).trans h2, h3⟩
def entRows (t : Nat) (e : Ent) : List Value := ((List.replicate t e).map Ent.cells).flatten
/-- What is taken off the front of bytes. -/
def EntryPost (B : Nat) (w : World) (l : List Nat) (e : Ending) (w' : World) : Prop :=
  ∃ v1 v2 ok, e = .returned (.tuple #[v1, v2, .bool ok]) ∧ Below w.heap.size w w' ∧ (entryP l = none → ok = false) ∧ (∀ x t r, entryP l = some (x, t, r) → ok = true ∧ KBb B w' v1 r ∧ w'.ownsRow w.heap.size 56 8 v2 t (entRows t x))
theorem u8_low (x : Nat) (h : x < 256) : bits .and .u8 (x : Int) 3 = ((x % 4 : Nat) : Int) := by
  rw [show (3 : Int) = ((3 : Nat) : Int) from rfl, u8_and_nat x 3 h (by decide), nat_mask2]
theorem i64_low6 (x : Nat) (h : x < 256) : bits .and .i64 (x : Int) 63 = ((x % 64 : Nat) : Int) := by
  rw [show (63 : Int) = ((63 : Nat) : Int) from rfl, i64_and_nat x 63 (by omega) (by decide), nat_mask6]

set_option maxHeartbeats 2000000 in
theorem script_entry0 {B x : Nat} {v : Value} {l : List Nat} {w : World} (h : KBb B w v (x :: l)) (hB : B ≤ w.heap.size) (hb : ∀ z ∈ x :: l, z < 256) (hm : (x :: l).length ≤ 9000000000000000000) (hx0 : x % 4 = 0) :
    Calls Tryz.prog 25 #[v] w (EntryPost B w (x :: l)) := by
  have hx' : x < 256 := hb x (List.mem_cons_self ..)
  have HR : Hid (∀ W, Calls Tryz.prog 45 #[.agg #[.int .i64 3, .int .i64 0, .int .i64 0, .int .i64 0, .int .i64 0, .int .i64 0, .int .i64 0, .int .i64 0], .int .i64 ((x : Int) / 4 + 1)] W fun e w' => ∃ v, e = .returned v ∧ w'.ownsRow (W.heap.size + 1) 56 8 v (x / 4 + 1) (entRows (x / 4 + 1) (tickE)) ∧ Below W.heap.size W w') := Go.Lib.hid (fun W => by
    have := script_repeat (tickE) (x / 4 + 1) (by omega) W
    rwa [show (((x / 4 + 1 : Nat)) : Int) = ((x : Int) / 4 + 1) by omega] at this)
  have HE : Hid (entryP (x :: l) = some (tickE, x / 4 + 1, l)) := Go.Lib.hid (by simp only [entryP]; rw [if_pos hx0])
  have hc := h.form
  obtain ⟨g, off, c, rfl, hcap, hcell⟩ := KB.open h (by simp)
  have hx : x < 256 := hb x (List.mem_cons_self ..)
  have c0 := hcell 0 x rfl
  rw [Nat.add_zero] at c0
  have HD : Hid (KBb B w (.slice (if c = 1 then some ⟨g, off, none⟩ else some ⟨g, off + 1, none⟩) ((x :: l).length - 1) (c - 1)) l) := Go.Lib.hid (KB.drop h (m := 1) (by simp))
  have hand := u8_low x hx
  have hBb := Go.Lib.hid hb
  clear hc h hcell hb
  rw [List.length_cons] at *
  generalize hn : l.length = n at *
  have hn' := Go.Lib.hid hn
  clear hn
  rw [hx0] at hand
  clear hx0
  go_enter Tryz.func25, Tryz.ntmps25
  go_wp2
  go_quiet (fail)
  have HD1 := Go.Lib.hid (HD.out.heap (w' := w.drewN nq) rfl)
  have HB0 : Hid (Below w.heap.size w (w.drewN nq)) := Go.Lib.hid (below_drewN nq)
  clear HD c0
  generalize w.drewN nq = W at *
  go_upto_region 2 with (fail)
  go_cut [0] from 22 to 23 (fun v0 wx => wx = W ∧ KBb B wx v0 l)
  case first =>
    by_cases hc1 : c = 1
    · have hn0 : n = 0 := by omega
      have HQ := HD1.out
      rw [if_pos hc1, hc1, hn0] at HQ
      have HD2 := Go.Lib.hid HQ
      clear HQ HD1
      subst hc1 hn0
      go_wp2
      go_meet
      exact ⟨rfl, HD2.out⟩
    · have HQ := HD1.out
      rw [if_neg hc1] at HQ
      have HD2 := Go.Lib.hid HQ
      clear HQ HD1
      go_wp2
      go_meet
      exact ⟨rfl, HD2.out⟩
  case rest =>
  obtain ⟨rfl, hvb⟩ := hcut
  have HV := Go.Lib.hid hvb
  clear hvb HD1
  go_wp2_with fail
  refine (HR.out _).mono ?_
  rintro e w2 ⟨s, rfl, ho, hb2⟩
  have HO := Go.Lib.hid (own_mono (base' := w.heap.size) ho (by have := HB0.out.size; omega))
  have HB2 := Go.Lib.hid (HB0.out.trans (hb2.mono HB0.out.size))
  have HV2 := Go.Lib.hid (HV.out.below (Nat.le_trans hB HB0.out.size) hb2)
  clear ho hb2
  go_wp2
  go_ret3
  exact ⟨_, _, _, rfl, HB2.out, (fun q => by rw [HE.out] at q; cases q), (fun y t r q => by rw [HE.out] at q; cases q; exact ⟨rfl, HV2.out, HO.out⟩)⟩

set_option maxHeartbeats 2000000 in
theorem script_entry1 {B x : Nat} {v : Value} {l : List Nat} {w : World} (h : KBb B w v (x :: l)) (hB : B ≤ w.heap.size) (hb : ∀ z ∈ x :: l, z < 256) (hm : (x :: l).length ≤ 9000000000000000000) (hx0 : x % 4 = 1) :
    Calls Tryz.prog 25 #[v] w (EntryPost B w (x :: l)) := by
  have hx' : x < 256 := hb x (List.mem_cons_self ..)
  have HR : Hid (∀ W, Calls Tryz.prog 45 #[.agg #[.int .i64 2, .int .i64 ((x : Int) / 4), .int .i64 0, .int .i64 0, .int .i64 0, .int .i64 0, .int .i64 0, .int .i64 0], .int .i64 1] W fun e w' => ∃ v, e = .returned v ∧ w'.ownsRow (W.heap.size + 1) 56 8 v (1) (entRows (1) (pickE ((x : Int) / 4))) ∧ Below W.heap.size W w') := Go.Lib.hid (fun W => by
    have := script_repeat (pickE ((x : Int) / 4)) (1) (by omega) W
    rwa [show (((1 : Nat)) : Int) = 1 by omega] at this)
  have HE : Hid (entryP (x :: l) = some (pickE ((x : Int) / 4), 1, l)) := Go.Lib.hid (by simp only [entryP]; rw [if_neg (by omega), if_pos hx0]; rfl)
  have hc := h.form
  obtain ⟨g, off, c, rfl, hcap, hcell⟩ := KB.open h (by simp)
  have hx : x < 256 := hb x (List.mem_cons_self ..)
  have c0 := hcell 0 x rfl
  rw [Nat.add_zero] at c0
  have HD : Hid (KBb B w (.slice (if c = 1 then some ⟨g, off, none⟩ else some ⟨g, off + 1, none⟩) ((x :: l).length - 1) (c - 1)) l) := Go.Lib.hid (KB.drop h (m := 1) (by simp))
  have hand := u8_low x hx
  have hBb := Go.Lib.hid hb
  clear hc h hcell hb
  rw [List.length_cons] at *
  generalize hn : l.length = n at *
  have hn' := Go.Lib.hid hn
  clear hn
  rw [hx0] at hand
  clear hx0
  go_enter Tryz.func25, Tryz.ntmps25
  go_wp2
  go_quiet (fail)
  have HD1 := Go.Lib.hid (HD.out.heap (w' := w.drewN nq) rfl)
  have HB0 : Hid (Below w.heap.size w (w.drewN nq)) := Go.Lib.hid (below_drewN nq)
  clear HD c0
  generalize w.drewN nq = W at *
  go_upto_region 2 with (fail)
  go_cut [0] from 22 to 23 (fun v0 wx => wx = W ∧ KBb B wx v0 l)
  case first =>
    by_cases hc1 : c = 1
    · have hn0 : n = 0 := by omega
      have HQ := HD1.out
      rw [if_pos hc1, hc1, hn0] at HQ
      have HD2 := Go.Lib.hid HQ
      clear HQ HD1
      subst hc1 hn0
      go_wp2
      go_meet
      exact ⟨rfl, HD2.out⟩
    · have HQ := HD1.out
      rw [if_neg hc1] at HQ
      have HD2 := Go.Lib.hid HQ
      clear HQ HD1
      go_wp2
      go_meet
      exact ⟨rfl, HD2.out⟩
  case rest =>
  obtain ⟨rfl, hvb⟩ := hcut
  have HV := Go.Lib.hid hvb
  clear hvb HD1
  go_wp2_with fail
  refine (HR.out _).mono ?_
  rintro e w2 ⟨s, rfl, ho, hb2⟩
  have HO := Go.Lib.hid (own_mono (base' := w.heap.size) ho (by have := HB0.out.size; omega))
  have HB2 := Go.Lib.hid (HB0.out.trans (hb2.mono HB0.out.size))
  have HV2 := Go.Lib.hid (HV.out.below (Nat.le_trans hB HB0.out.size) hb2)
  clear ho hb2
  go_wp2
  go_ret3
  exact ⟨_, _, _, rfl, HB2.out, (fun q => by rw [HE.out] at q; cases q), (fun y t r q => by rw [HE.out] at q; cases q; exact ⟨rfl, HV2.out, HO.out⟩)⟩

theorem script_take1 {B y : Nat} {v : Value} {l : List Nat} {w : World} (h : KBb B w v (y :: l)) (hb : ∀ z ∈ y :: l, z < 256) (hm : (y :: l).length ≤ 9000000000000000000) :
    Calls Tryz.prog 22 #[v, .int .i64 1] w fun e w' => ∃ v', e = .returned (.tuple #[v', .int .i64 (y : Nat), .bool true]) ∧ KBb B w' v' l ∧ w' = w := by
  have := script_take 1 (by decide) (by decide) h hb (by simp) (by omega)
  refine this.mono ?_
  rintro e w' ⟨rfl, rfl⟩
  exact ⟨_, by simp [numL], KB.from (k := 1) h (by simp) (by simp), rfl⟩

set_option maxHeartbeats 2000000 in
theorem script_entry2 {B x y : Nat} {v : Value} {l : List Nat} {w : World} (h : KBb B w v (x :: y :: l)) (hB : B ≤ w.heap.size) (hb : ∀ z ∈ x :: y :: l, z < 256) (hm : (x :: y :: l).length ≤ 9000000000000000000) (hx0 : x % 4 = 2) :
    Calls Tryz.prog 25 #[v] w (EntryPost B w (x :: y :: l)) := by
  have hx' : x < 256 := hb x (List.mem_cons_self ..)
  have HNB : Hid (∀ W v0, KBb B W v0 (y :: l) → Calls Tryz.prog 22 #[v0, .int .i64 1] W fun e w' => ∃ v', e = .returned (.tuple #[v', .int .i64 (y : Nat), .bool true]) ∧ KBb B w' v' l ∧ w' = W) := Go.Lib.hid (fun W v0 h => script_take1 h (fun z hz => hb z (List.mem_cons_of_mem _ hz)) (by have := hm; simp only [List.length_cons] at this ⊢; omega))
  have hy' : y < 256 := hb y (by simp)
  have hl6 := i64_low6 y hy'
  generalize hy6 : y % 64 = y6 at *
  have hy7 : y6 < 64 := by omega
  clear hy'
  have HR : Hid (∀ W, Calls Tryz.prog 45 #[.agg #[.int .i64 2, .int .i64 (y6 : Nat), .int .i64 0, .int .i64 0, .int .i64 0, .int .i64 0, .int .i64 0, .int .i64 0], .int .i64 ((x : Int) / 4 + 1)] W fun e w' => ∃ v, e = .returned v ∧ w'.ownsRow (W.heap.size + 1) 56 8 v (x / 4 + 1) (entRows (x / 4 + 1) (pickE (y6 : Nat))) ∧ Below W.heap.size W w') := Go.Lib.hid (fun W => by
    have := script_repeat (pickE (y6 : Nat)) (x / 4 + 1) (by omega) W
    rwa [show (((x / 4 + 1 : Nat)) : Int) = ((x : Int) / 4 + 1) by omega] at this)
  have HE : Hid (entryP (x :: y :: l) = some (pickE (y6 : Nat), x / 4 + 1, l)) := Go.Lib.hid (by simp only [entryP]; rw [if_neg (by omega), if_neg (by omega), if_pos hx0, hy6])
  have HY6 := Go.Lib.hid hy6
  clear hy6
  have hc := h.form
  obtain ⟨g, off, c, rfl, hcap, hcell⟩ := KB.open h (by simp)
  have hx : x < 256 := hb x (List.mem_cons_self ..)
  have c0 := hcell 0 x rfl
  rw [Nat.add_zero] at c0
  have HD : Hid (KBb B w (.slice (if c = 1 then some ⟨g, off, none⟩ else some ⟨g, off + 1, none⟩) ((x :: y :: l).length - 1) (c - 1)) (y :: l)) := Go.Lib.hid (KB.drop h (m := 1) (by simp))
  have hand := u8_low x hx
  have hBb := Go.Lib.hid hb
  clear hc h hcell hb
  rw [List.length_cons] at *
  generalize hn : (y :: l).length = n at *
  have hn' := Go.Lib.hid hn
  clear hn
  rw [hx0] at hand
  clear hx0
  go_enter Tryz.func25, Tryz.ntmps25
  go_wp2
  go_quiet (fail)
  have HD1 := Go.Lib.hid (HD.out.heap (w' := w.drewN nq) rfl)
  have HB0 : Hid (Below w.heap.size w (w.drewN nq)) := Go.Lib.hid (below_drewN nq)
  clear HD c0
  generalize w.drewN nq = W at *
  go_upto_region 2 with (fail)
  go_cut [0] from 22 to 23 (fun v0 wx => wx = W ∧ KBb B wx v0 (y :: l))
  case first =>
    by_cases hc1 : c = 1
    · have hn0 : n = 0 := by omega
      have HQ := HD1.out
      rw [if_pos hc1, hc1, hn0] at HQ
      have HD2 := Go.Lib.hid HQ
      clear HQ HD1
      subst hc1 hn0
      go_wp2
      go_meet
      exact ⟨rfl, HD2.out⟩
    · have HQ := HD1.out
      rw [if_neg hc1] at HQ
      have HD2 := Go.Lib.hid HQ
      clear HQ HD1
      go_wp2
      go_meet
      exact ⟨rfl, HD2.out⟩
  case rest =>
  obtain ⟨rfl, hvb⟩ := hcut
  have HV := Go.Lib.hid hvb
  clear hvb HD1
  go_wp2_with fail
  refine (HNB.out _ _ HV.out).mono ?_
  rintro e W2 ⟨v1, rfl, hv1, rfl⟩
  have HV1 := Go.Lib.hid hv1
  clear hv1 HV HNB
  go_wp2_with fail
  refine (HR.out _).mono ?_
  rintro e w2 ⟨s, rfl, ho, hb2⟩
  have HO := Go.Lib.hid (own_mono (base' := w.heap.size) ho (by have := HB0.out.size; omega))
  have HB2 := Go.Lib.hid (HB0.out.trans (hb2.mono HB0.out.size))
  have HV2 := Go.Lib.hid (HV1.out.below (Nat.le_trans hB HB0.out.size) hb2)
  clear ho hb2
  go_wp2
  go_ret3
  exact ⟨_, _, _, rfl, HB2.out, (fun q => by rw [HE.out] at q; cases q), (fun y t r q => by rw [HE.out] at q; cases q; exact ⟨rfl, HV2.out, HO.out⟩)⟩

theorem script_take_any {B : Nat} {v : Value} {b : List Nat} {w : World} (k : Nat) (hk : 1 ≤ k) (hk4 : k ≤ 4) (h : KBb B w v b) (hb : ∀ z ∈ b, z < 256) (hm : b.length ≤ 9000000000000000000) :
    Calls Tryz.prog 22 #[v, .int .i64 k] w fun e w' => e = .returned (.tuple #[if b.length < k then .slice none 0 0 else sliceFrom v k, .int .i64 (if b.length < k then 0 else numL (b.take k) : Nat), .bool (decide (k ≤ b.length))]) ∧ w' = w := by
  by_cases hl : b.length < k
  · rw [if_pos hl, if_pos hl, decide_eq_false (by omega)]
    exact script_take_no k hk4 h hl
  · rw [if_neg hl, if_neg hl, decide_eq_true (by omega)]
    exact script_take k hk hk4 h hb (by omega) (by omega)

/-- What is left of an entry's parts while they are taken. -/
def FinO (FIN : Option (Ent × List Nat)) (B : Nat) (w : World) (v : Value) (ok : Bool) (ps : List (Nat × Nat)) (e : Ent) : Prop :=
  (ok = true → ∃ b, (∀ z ∈ b, z < 256) ∧ b.length ≤ 9000000000000000000 ∧ KBb B w v b ∧ partsP ps e b = FIN) ∧ (ok = false → FIN = none)
theorem FinO.below {FIN : Option (Ent × List Nat)} {B : Nat} {w w' : World} {v : Value} {ok : Bool} {ps : List (Nat × Nat)} {e : Ent} (h : FinO FIN B w v ok ps e) (hB : B ≤ w.heap.size) (hb : Below w.heap.size w w') : FinO FIN B w' v ok ps e :=
  ⟨fun q => by obtain ⟨b, h1, h2, h3, h4⟩ := h.1 q; exact ⟨b, h1, h2, h3.below hB hb, h4⟩, h.2⟩
theorem FinO.next {FIN : Option (Ent × List Nat)} {B : Nat} {w : World} {v : Value} {i k : Nat} {ps : List (Nat × Nat)} {e : Ent} {b : List Nat} (hk : 1 ≤ k) (h : ∀ z ∈ b, z < 256) (h2 : b.length ≤ 9000000000000000000) (hv : KBb B w v b) (hp : partsP ((i, k) :: ps) e b = FIN) :
    FinO FIN B w (if b.length < k then .slice none 0 0 else sliceFrom v k) (decide (k ≤ b.length)) ps (e.set i ((if b.length < k then 0 else numL (b.take k) : Nat) : Int)) := by
  rw [partsP] at hp
  unfold takeP at hp
  by_cases hl : b.length < k
  · rw [if_pos hl] at hp
    exact ⟨fun q => (by simp at q; omega), fun _ => hp.symm⟩
  · rw [if_neg hl] at hp
    rw [if_neg hl, if_neg hl]
    exact ⟨fun _ => ⟨b.drop k, fun z hz => h z (List.mem_of_mem_drop hz), by rw [List.length_drop]; omega, KB.from hv (by omega) (by omega), hp⟩, fun q => (by simp at q; omega)⟩
theorem shape_drop {op j : Nat} (h : j < (shapeP op).length) : ∃ i k, 3 ≤ i ∧ i ≤ 7 ∧ 1 ≤ k ∧ k ≤ 4 ∧ (shapeP op)[j]? = some (i, k) ∧ (shapeP op).drop j = (i, k) :: (shapeP op).drop (j + 1) := by
  obtain ⟨i, h3, h7, h4, _⟩ := strE_at op j h
  refine ⟨i, widE i, h3, h7, ?_, ?_, h4, ?_⟩
  · unfold widE; repeat' split
    all_goals decide
  · unfold widE; repeat' split
    all_goals decide
  · rw [List.drop_eq_getElem_cons h]
    rw [List.getElem?_eq_getElem h] at h4
    rw [Option.some.inj h4]
theorem shape_len (op : Nat) : (shapeP op).length ≤ 3 := by
  unfold shapeP
  repeat' split
  all_goals simp

def oneE : Option (Ent × List Nat) → Option (Ent × Nat × List Nat)
  | none => none
  | some (e, b) => some (e, 1, b)
theorem own_one {w : World} {base k : Nat} {e : TypeId} {cs : Array Value} (hb : base ≤ w.heap.size) (hk : cs.size = k) : (w.alloc (.cells cs e)).ownsRow base e k (.slice (some ⟨w.heap.size, 0, none⟩) 1 1) 1 cs.toList :=
  ⟨by simp [hk], .inr ⟨w.heap.size, 1, cs, rfl, hb, heap_alloc_new _ _, Nat.le_refl _, by unfold maxLen; omega, by simp [hk], by rw [Nat.one_mul, ← hk, ← Array.length_toList, List.take_length]⟩⟩
theorem row_below {w w' : World} {b : Nat} {o : Obj} (hb : Below w.heap.size w w') (h : w.heap[b]? = some o) : w'.heap[b]? = some o := (hb.block b (heap_lt0 h)).trans h
theorem row_set0 {w : World} {g j : Nat} {cs : Array Value} {t : TypeId} {fr : Nat × Nat} {v : Value} (h : w.heap[g]? = some (.cells cs t fr)) : (w.setCell ⟨g, j, none⟩ v).heap[g]? = some (.cells (cs.setIfInBounds j v) t fr) := by
  simp [World.setCell, Array.getElem?_modify, h]
theorem ent_set (e : Ent) (i : Nat) (n : Int) (h3 : 3 ≤ i) (h7 : i ≤ 7) : (#[.int .i64 e.kind, .int .i64 e.worker, .int .i64 e.op, .int .i64 e.node, .int .i64 e.gen, .int .i64 e.time, .int .i64 e.arg, .int .i64 e.user] : Array Value).setIfInBounds i (.int .i64 n) = #[.int .i64 (e.set i n).kind, .int .i64 (e.set i n).worker, .int .i64 (e.set i n).op, .int .i64 (e.set i n).node, .int .i64 (e.set i n).gen, .int .i64 (e.set i n).time, .int .i64 (e.set i n).arg, .int .i64 (e.set i n).user] := by
  match i, h3, h7 with
  | 3, _, _ | 4, _, _ | 5, _, _ | 6, _, _ | 7, _, _ => rfl
theorem entry_end {B : Nat} {w W W' : World} {L : List Nat} {FIN : Option (Ent × List Nat)} {v v2 : Value} {ok : Bool} {ps : List (Nat × Nat)} {e : Ent} (HE : entryP L = oneE FIN) (hf : FinO FIN B W v ok ps e) (hps : ok = true → ps = []) (hB : B ≤ W.heap.size) (hbw : Below w.heap.size w W) (hb : Below W.heap.size W W') (own : W'.ownsRow w.heap.size 56 8 v2 1 e.cells) :
    EntryPost B w L (.returned (.tuple #[v, v2, .bool ok])) W' := by
  refine ⟨v, v2, ok, rfl, hbw.trans (hb.mono hbw.size), fun q => ?_, fun x t r q => ?_⟩
  · cases ok with
    | false => rfl
    | true =>
      obtain ⟨b, _, _, _, h4⟩ := hf.1 rfl
      rw [hps rfl] at h4
      simp only [partsP] at h4
      rw [← h4] at HE
      rw [HE] at q
      cases q
  · cases ok with
    | false =>
      rw [hf.2 rfl] at HE
      rw [HE] at q
      cases q
    | true =>
      obtain ⟨b, _, _, h3, h4⟩ := hf.1 rfl
      rw [hps rfl] at h4
      simp only [partsP] at h4
      rw [← h4] at HE
      rw [HE] at q
      cases q
      refine ⟨rfl, h3.below hB hb, ?_⟩
      have : entRows 1 e = e.cells := by simp [entRows]
      rw [this]
      exact own

set_option maxHeartbeats 2000000 in
theorem script_entry3 {B x y : Nat} {v : Value} {l : List Nat} {w : World} (h : KBb B w v (x :: y :: l)) (hB : B ≤ w.heap.size) (hb : ∀ z ∈ x :: y :: l, z < 256) (hm : (x :: y :: l).length ≤ 9000000000000000000) (hx0 : x % 4 = 3) :
    Calls Tryz.prog 25 #[v] w (EntryPost B w (x :: y :: l)) := by
  have hx' : x < 256 := hb x (List.mem_cons_self ..)
  have HNB : Hid (∀ W v0, KBb B W v0 (y :: l) → Calls Tryz.prog 22 #[v0, .int .i64 1] W fun e w' => ∃ v', e = .returned (.tuple #[v', .int .i64 (y : Nat), .bool true]) ∧ KBb B w' v' l ∧ w' = W) := Go.Lib.hid (fun W v0 h => script_take1 h (fun z hz => hb z (List.mem_cons_of_mem _ hz)) (by have := hm; simp only [List.length_cons] at this ⊢; omega))
  have hy' : y < 256 := hb y (by simp)
  have HE : Hid (entryP (x :: y :: l) = oneE (partsP (shapeP (x / 4)) (invE y ((x : Int) / 4)) l)) := Go.Lib.hid (by simp only [entryP]; rw [if_neg (by omega), if_neg (by omega), if_neg (by omega)]; rfl)
  have HL : Hid ((∀ z ∈ l, z < 256) ∧ l.length ≤ 9000000000000000000) := Go.Lib.hid ⟨fun z hz => hb z (List.mem_cons_of_mem _ (List.mem_cons_of_mem _ hz)), by have := hm; simp only [List.length_cons] at this; omega⟩
  have hc := h.form
  obtain ⟨g, off, c, rfl, hcap, hcell⟩ := KB.open h (by simp)
  have hx : x < 256 := hb x (List.mem_cons_self ..)
  have c0 := hcell 0 x rfl
  rw [Nat.add_zero] at c0
  have HD : Hid (KBb B w (.slice (if c = 1 then some ⟨g, off, none⟩ else some ⟨g, off + 1, none⟩) ((x :: y :: l).length - 1) (c - 1)) (y :: l)) := Go.Lib.hid (KB.drop h (m := 1) (by simp))
  have hand := u8_low x hx
  have hBb := Go.Lib.hid hb
  clear hc h hcell hb
  rw [List.length_cons] at *
  generalize hn : (y :: l).length = n at *
  have hn' := Go.Lib.hid hn
  clear hn
  rw [hx0] at hand
  clear hx0
  go_enter Tryz.func25, Tryz.ntmps25
  go_wp2
  go_quiet (fail)
  have HD1 := Go.Lib.hid (HD.out.heap (w' := w.drewN nq) rfl)
  have HB0 : Hid (Below w.heap.size w (w.drewN nq)) := Go.Lib.hid (below_drewN nq)
  clear HD c0
  generalize w.drewN nq = W at *
  go_upto_region 2 with (fail)
  go_cut [0] from 22 to 23 (fun v0 wx => wx = W ∧ KBb B wx v0 (y :: l))
  case first =>
    by_cases hc1 : c = 1
    · have hn0 : n = 0 := by omega
      have HQ := HD1.out
      rw [if_pos hc1, hc1, hn0] at HQ
      have HD2 := Go.Lib.hid HQ
      clear HQ HD1
      subst hc1 hn0
      go_wp2
      go_meet
      exact ⟨rfl, HD2.out⟩
    · have HQ := HD1.out
      rw [if_neg hc1] at HQ
      have HD2 := Go.Lib.hid HQ
      clear HQ HD1
      go_wp2
      go_meet
      exact ⟨rfl, HD2.out⟩
  case rest =>
  obtain ⟨rfl, hvb⟩ := hcut
  have HV := Go.Lib.hid hvb
  clear hvb HD1
  go_wp2_with fail
  refine (HNB.out _ _ HV.out).mono ?_
  rintro e W2 ⟨v1, rfl, hv1, rfl⟩
  have HV1 := Go.Lib.hid hv1
  clear hv1 HV HNB
  have FIN0 : Hid (FinO (partsP (shapeP (x / 4)) (invE y ((x : Int) / 4)) l) B W2 v1 true (shapeP (x / 4)) (invE y ((x : Int) / 4))) := Go.Lib.hid ⟨fun _ => ⟨l, HL.out.1, HL.out.2, HV1.out, rfl⟩, fun q => (by cases q)⟩
  generalize partsP (shapeP (x / 4)) (invE y ((x : Int) / 4)) l = FIN at *
  clear HV1 HL
  have HP := Go.Lib.hid (fun W => script_parts (x / 4) W)
  have hxd : (((x / 4 : Nat)) : Int) = (x : Int) / 4 := by omega
  rw [hxd] at HP
  clear hxd
  go_upto_region 11 with (fail)
  have hal : Below W2.heap.size W2 (W2.alloc (.cells #[.int .i64 1, .int .i64 (y : Nat), .int .i64 ((x : Int) / 4), .int .i64 0, .int .i64 0, .int .i64 0, .int .i64 0, .int .i64 0] 56)) := (Below.refl _ _).alloc (Nat.le_refl _) _
  have hrow0 := heap_alloc_new W2 (.cells #[.int .i64 1, .int .i64 (y : Nat), .int .i64 ((x : Int) / 4), .int .i64 0, .int .i64 0, .int .i64 0, .int .i64 0, .int .i64 0] 56)
  have hsz3 : (W2.alloc (.cells #[.int .i64 1, .int .i64 (y : Nat), .int .i64 ((x : Int) / 4), .int .i64 0, .int .i64 0, .int .i64 0, .int .i64 0, .int .i64 0] 56)).heap.size = W2.heap.size + 1 := by simp
  have HF0 : Hid (FinO FIN B (W2.alloc (.cells #[.int .i64 1, .int .i64 (y : Nat), .int .i64 ((x : Int) / 4), .int .i64 0, .int .i64 0, .int .i64 0, .int .i64 0, .int .i64 0] 56)) v1 true (shapeP (x / 4)) (Ent.mk 1 (y : Nat) ((x : Int) / 4) 0 0 0 0 0)) := Go.Lib.hid (FIN0.out.below (Nat.le_trans hB HB0.out.size) hal)
  have HBW := Go.Lib.hid (HB0.out.trans (hal.mono HB0.out.size))
  have hg9 : w.heap.size ≤ W2.heap.size := HB0.out.size
  clear FIN0 hal HB0
  generalize (W2.alloc (.cells #[.int .i64 1, .int .i64 (y : Nat), .int .i64 ((x : Int) / 4), .int .i64 0, .int .i64 0, .int .i64 0, .int .i64 0, .int .i64 0] 56)) = W3 at *
  generalize W2.heap.size = g9 at *
  go_wp2_with fail
  refine (HP.out _).mono ?_
  rintro e W4 ⟨vp, rfl, hpa, hb4⟩
  have HROW := Go.Lib.hid (row_below hb4 hrow0)
  have HBW4 := Go.Lib.hid (HBW.out.trans (hb4.mono HBW.out.size))
  have HF := Go.Lib.hid (HF0.out.below (Nat.le_trans hB HBW.out.size) hb4)
  rw [hsz3] at hpa
  have HPA := Go.Lib.hid hpa
  have hpa2 := hpa
  obtain ⟨pp, cp, rfl, _⟩ := hpa2
  have hlen := shape_len (x / 4)
  have HSD : Hid (∀ j, j < (shapeP (x / 4)).length → ∃ i k, 3 ≤ i ∧ i ≤ 7 ∧ 1 ≤ k ∧ k ≤ 4 ∧ (shapeP (x / 4))[j]? = some (i, k) ∧ (shapeP (x / 4)).drop j = (i, k) :: (shapeP (x / 4)).drop (j + 1)) := Go.Lib.hid (fun j hj => shape_drop hj)
  have HSE : Hid ((shapeP (x / 4)).drop (shapeP (x / 4)).length = []) := Go.Lib.hid (List.drop_length)
  clear hpa hb4 hrow0 HF0 HBW HP hsz3
  generalize hN : (shapeP (x / 4)).length = N at *
  have HN := Go.Lib.hid hN
  clear hN
  go_wp2
  go_loopw [0, 8, 59] (fun u0 u8 u59 wr => ∃ (j : Nat) (ok : Bool) (e0 e1 e2 e3 e4 e5 e6 e7 : Int), u59 = .int .i64 j ∧ u8 = .bool ok ∧ j ≤ N ∧ wr.heap[g9]? = some (.cells #[.int .i64 e0, .int .i64 e1, .int .i64 e2, .int .i64 e3, .int .i64 e4, .int .i64 e5, .int .i64 e6, .int .i64 e7] 56) ∧ FinO FIN B wr u0 ok ((shapeP (x / 4)).drop j) ⟨e0, e1, e2, e3, e4, e5, e6, e7⟩ ∧ PartsAt (g9 + 1) wr (.slice pp N cp) (shapeP (x / 4)) ∧ Below w.heap.size w wr) (fun _ _ i _ => N - (intOf i).toNat)
  case atStart => exact ⟨0, true, _, _, _, _, _, _, _, _, rfl, rfl, Nat.zero_le _, HROW.out, HF.out, HPA.out, HBW4.out⟩
  case round =>
    obtain ⟨j, ok, e0, e1, e2, e3, e4, e5, e6, e7, rfl, rfl, hj, hrow, hf, hpa, hbw⟩ := hrel
    have c0 : wr.cell? ⟨g9, 0, none⟩ = some (.int .i64 e0) := cell_of_row _ _ _ _ _ _ hrow
    have c1 : wr.cell? ⟨g9, 1, none⟩ = some (.int .i64 e1) := cell_of_row _ _ _ _ _ _ hrow
    have c2 : wr.cell? ⟨g9, 2, none⟩ = some (.int .i64 e2) := cell_of_row _ _ _ _ _ _ hrow
    have c3 : wr.cell? ⟨g9, 3, none⟩ = some (.int .i64 e3) := cell_of_row _ _ _ _ _ _ hrow
    have c4 : wr.cell? ⟨g9, 4, none⟩ = some (.int .i64 e4) := cell_of_row _ _ _ _ _ _ hrow
    have c5 : wr.cell? ⟨g9, 5, none⟩ = some (.int .i64 e5) := cell_of_row _ _ _ _ _ _ hrow
    have c6 : wr.cell? ⟨g9, 6, none⟩ = some (.int .i64 e6) := cell_of_row _ _ _ _ _ _ hrow
    have c7 : wr.cell? ⟨g9, 7, none⟩ = some (.int .i64 e7) := cell_of_row _ _ _ _ _ _ hrow
    have HROWr := Go.Lib.hid hrow
    have HFr := Go.Lib.hid hf
    have HPAr := Go.Lib.hid hpa
    have HBWr := Go.Lib.hid hbw
    clear hrow hf hpa hbw HROW HF HPA HBW4
    by_cases hlt : j < N
    · obtain ⟨i, k, hi3, hi7, hk1, hk4, hat, hdr⟩ := HSD.out j hlt
      obtain ⟨pp', cp', hq, hcell⟩ := HPAr.out
      obtain ⟨gp, hgp, hppq, p0, p1⟩ := hcell j i k hat
      injection hq with hq1 hq2 hq3
      subst hq1
      subst hppq
      clear hcell hq2 hq3 hat
      have hdr' := Go.Lib.hid hdr
      clear hdr
      have hen := fun args w => parts_enter i hi3 hi7 args w
      have HAT : Hid (∀ W, Calls Tryz.prog (atN i) #[.pointer (some ⟨g9, 0, none⟩)] W fun e w' => e = .returned (.pointer (some ⟨g9, i, none⟩)) ∧ w' = W) := Go.Lib.hid (fun W => parts_at i g9 hi3 hi7 W)
      have b1 : (0 : Int) ≤ (j : Int) := by omega
      have b2 : (j : Int) < (N : Int) := by omega
      cases ok with
      | false =>
        go_wp2_with fail
        have hal : Below wr.heap.size wr (wr.alloc (.cells #[.func (.func (atN i)) #[] #[], .int .i64 (k : Nat)] 105)) := (Below.refl _ _).alloc (Nat.le_refl _) _
        have hrow := row_below hal HROWr.out
        have HBW5 := Go.Lib.hid (HBWr.out.trans (hal.mono HBWr.out.size))
        have HF5 := Go.Lib.hid (HFr.out.below (Nat.le_trans hB HBWr.out.size) hal)
        have HPA5 := Go.Lib.hid (HPAr.out.below hal)
        clear hal c0 c1 c2 c3 c4 c5 c6 c7 p0 p1 HBWr HFr HROWr HPAr
        have p2 : (wr.alloc (.cells #[.func (.func (atN i)) #[] #[], .int .i64 (k : Nat)] 105)).cell? ⟨wr.heap.size, 0, none⟩ = some (.func (.func (atN i)) #[] #[]) := by go_simp
        have p3 : (wr.alloc (.cells #[.func (.func (atN i)) #[] #[], .int .i64 (k : Nat)] 105)).cell? ⟨wr.heap.size, 1, none⟩ = some (.int .i64 (k : Nat)) := by go_simp
        generalize (wr.alloc (.cells #[.func (.func (atN i)) #[] #[], .int .i64 (k : Nat)] 105)) = W5 at *
        have c0 : W5.cell? ⟨g9, 0, none⟩ = some (.int .i64 e0) := cell_of_row _ _ _ _ _ _ hrow
        have c1 : W5.cell? ⟨g9, 1, none⟩ = some (.int .i64 e1) := cell_of_row _ _ _ _ _ _ hrow
        have c2 : W5.cell? ⟨g9, 2, none⟩ = some (.int .i64 e2) := cell_of_row _ _ _ _ _ _ hrow
        have c3 : W5.cell? ⟨g9, 3, none⟩ = some (.int .i64 e3) := cell_of_row _ _ _ _ _ _ hrow
        have c4 : W5.cell? ⟨g9, 4, none⟩ = some (.int .i64 e4) := cell_of_row _ _ _ _ _ _ hrow
        have c5 : W5.cell? ⟨g9, 5, none⟩ = some (.int .i64 e5) := cell_of_row _ _ _ _ _ _ hrow
        have c6 : W5.cell? ⟨g9, 6, none⟩ = some (.int .i64 e6) := cell_of_row _ _ _ _ _ _ hrow
        have c7 : W5.cell? ⟨g9, 7, none⟩ = some (.int .i64 e7) := cell_of_row _ _ _ _ _ _ hrow
        have HROW5 := Go.Lib.hid hrow
        clear hrow
        go_region
        go_wp2
        go_ret3
        exact entry_end HE.out HF5.out (fun q => by cases q) (Nat.le_trans hB HBW5.out.size) HBW5.out ((Below.refl _ _).alloc (Nat.le_refl _) _).drew (World.ownsRow.drew (own_one (cs := #[.int .i64 e0, .int .i64 e1, .int .i64 e2, .int .i64 e3, .int .i64 e4, .int .i64 e5, .int .i64 e6, .int .i64 e7]) HBW5.out.size rfl))
      | true =>
        go_wp2_with fail
        have hal : Below wr.heap.size wr (wr.alloc (.cells #[.func (.func (atN i)) #[] #[], .int .i64 (k : Nat)] 105)) := (Below.refl _ _).alloc (Nat.le_refl _) _
        have hrow := row_below hal HROWr.out
        have HBW5 := Go.Lib.hid (HBWr.out.trans (hal.mono HBWr.out.size))
        have HF5 := Go.Lib.hid (HFr.out.below (Nat.le_trans hB HBWr.out.size) hal)
        have HPA5 := Go.Lib.hid (HPAr.out.below hal)
        clear hal c0 c1 c2 c3 c4 c5 c6 c7 HBWr HFr HROWr HPAr
        have p2 : (wr.alloc (.cells #[.func (.func (atN i)) #[] #[], .int .i64 (k : Nat)] 105)).cell? ⟨wr.heap.size, 0, none⟩ = some (.func (.func (atN i)) #[] #[]) := by go_simp
        have p3 : (wr.alloc (.cells #[.func (.func (atN i)) #[] #[], .int .i64 (k : Nat)] 105)).cell? ⟨wr.heap.size, 1, none⟩ = some (.int .i64 (k : Nat)) := by go_simp
        generalize (wr.alloc (.cells #[.func (.func (atN i)) #[] #[], .int .i64 (k : Nat)] 105)) = W5 at *
        have c0 : W5.cell? ⟨g9, 0, none⟩ = some (.int .i64 e0) := cell_of_row _ _ _ _ _ _ hrow
        have c1 : W5.cell? ⟨g9, 1, none⟩ = some (.int .i64 e1) := cell_of_row _ _ _ _ _ _ hrow
        have c2 : W5.cell? ⟨g9, 2, none⟩ = some (.int .i64 e2) := cell_of_row _ _ _ _ _ _ hrow
        have c3 : W5.cell? ⟨g9, 3, none⟩ = some (.int .i64 e3) := cell_of_row _ _ _ _ _ _ hrow
        have c4 : W5.cell? ⟨g9, 4, none⟩ = some (.int .i64 e4) := cell_of_row _ _ _ _ _ _ hrow
        have c5 : W5.cell? ⟨g9, 5, none⟩ = some (.int .i64 e5) := cell_of_row _ _ _ _ _ _ hrow
        have c6 : W5.cell? ⟨g9, 6, none⟩ = some (.int .i64 e6) := cell_of_row _ _ _ _ _ _ hrow
        have c7 : W5.cell? ⟨g9, 7, none⟩ = some (.int .i64 e7) := cell_of_row _ _ _ _ _ _ hrow
        obtain ⟨b, hbb, hbl, hbv, hbp⟩ := HF5.out.1 rfl
        have HTK : Hid (∀ W, W.heap = W5.heap → Calls Tryz.prog 22 #[u0, .int .i64 (k : Nat)] W fun e w' => e = .returned (.tuple #[if b.length < k then .slice none 0 0 else sliceFrom u0 k, .int .i64 (if b.length < k then 0 else numL (b.take k) : Nat), .bool (decide (k ≤ b.length))]) ∧ w' = W) := Go.Lib.hid (fun W hW => script_take_any k hk1 hk4 (hbv.heap hW) hbb hbl)
        have hbp' : partsP ((i, k) :: (shapeP (x / 4)).drop (j + 1)) ⟨e0, e1, e2, e3, e4, e5, e6, e7⟩ b = FIN := by rw [← hdr'.out]; exact hbp
        have HNX := Go.Lib.hid (fun (W : World) (hv : KBb B W u0 b) => FinO.next hk1 hbb hbl hv hbp')
        have HBV := Go.Lib.hid hbv
        clear hbp hbp' hbv
        generalize (if b.length < k then Value.slice none 0 0 else sliceFrom u0 k) = v9 at *
        generalize ((if b.length < k then 0 else numL (b.take k) : Nat)) = k9 at *
        generalize decide (k ≤ b.length) = o9 at *
        have HTK0 := Go.Lib.hid (HTK.out W5.drew rfl)
        obtain ⟨vi, ci⟩ : ∃ vi, W5.cell? ⟨g9, i, none⟩ = some vi := by
          rw [cell_of_row _ _ _ _ _ _ hrow]
          exact ⟨_, Array.getElem?_eq_getElem (by simp; omega)⟩
        have fi : W5.frozen? ⟨g9, i, none⟩ = false := frozen_of_row _ _ _ _ _ hrow
        obtain ⟨f0, f1, f2, f3, f4, f5, f6, f7, hset⟩ : ∃ f0 f1 f2 f3 f4 f5 f6 f7, (⟨e0, e1, e2, e3, e4, e5, e6, e7⟩ : Ent).set i (k9 : Nat) = ⟨f0, f1, f2, f3, f4, f5, f6, f7⟩ := ⟨_, _, _, _, _, _, _, _, rfl⟩
        have HREL : Hid ((W5.drew.setCell ⟨g9, i, none⟩ (.int .i64 (k9 : Nat))).heap[g9]? = some (.cells #[.int .i64 f0, .int .i64 f1, .int .i64 f2, .int .i64 f3, .int .i64 f4, .int .i64 f5, .int .i64 f6, .int .i64 f7] 56) ∧ FinO FIN B (W5.drew.setCell ⟨g9, i, none⟩ (.int .i64 (k9 : Nat))) v9 o9 ((shapeP (x / 4)).drop (j + 1)) ⟨f0, f1, f2, f3, f4, f5, f6, f7⟩ ∧ PartsAt (g9 + 1) (W5.drew.setCell ⟨g9, i, none⟩ (.int .i64 (k9 : Nat))) (.slice (some ⟨gp, 0, none⟩) N cp) (shapeP (x / 4)) ∧ Below w.heap.size w (W5.drew.setCell ⟨g9, i, none⟩ (.int .i64 (k9 : Nat)))) := Go.Lib.hid (by
          have h1 := row_set0 (j := i) (v := .int .i64 (k9 : Nat)) (show W5.drew.heap[g9]? = _ from hrow)
          have h2 := ent_set (⟨e0, e1, e2, e3, e4, e5, e6, e7⟩ : Ent) i (k9 : Nat) hi3 hi7
          rw [hset] at h2
          have h3 := HBW5.out.drew.setCell (p := ⟨g9, i, none⟩) (show w.heap.size ≤ g9 from hg9) (.int .i64 (k9 : Nat))
          have h4 : KBb B (W5.drew.setCell ⟨g9, i, none⟩ (.int .i64 (k9 : Nat))) u0 b := KB.keep HBV.out (fun q hq => Go.Deep.blk_setCell_other W5.drew ⟨g9, i, none⟩ _ q (by show q ≠ g9; omega))
          have h5 := HNX.out _ h4
          rw [hset] at h5
          exact ⟨h1.trans (congrArg (fun c => some (Obj.cells c 56 (0, 0))) h2), h5, PartsAt.set (HPA5.out.below (Below.refl _ _).drew) (show g9 < g9 + 1 by omega), h3⟩)
        have hrow5 := Go.Lib.hid hrow
        clear hrow hset HBV HNX HF5 HBW5 HPA5
        go_region_with (first
          | ((with_reducible refine (HAT.out _).mono ?_); rintro e w' ⟨rfl, rfl⟩)
          | ((with_reducible refine (HTK0.out).mono ?_); rintro e w' ⟨rfl, rfl⟩))
        all_goals
          go_wp2
          go_roundw
          case rel => exact ⟨j + 1, o9, f0, f1, f2, f3, f4, f5, f6, f7, by first | rfl | go_num, rfl, by omega, HREL.out.1, HREL.out.2.1, HREL.out.2.2.1, HREL.out.2.2.2⟩
          case measure => simp [intOf]; omega
    · have hjN : j = N := by omega
      subst hjN
      have HF5 := HFr
      have HBW5 := HBWr
      have HROW5 := HROWr
      clear HFr HBWr HROWr
      generalize hW5 : wr = W5 at *
      clear hW5
      go_wp2
      go_region
      go_wp2
      go_ret3
      exact entry_end HE.out HF5.out (fun _ => HSE.out) (Nat.le_trans hB HBW5.out.size) HBW5.out ((Below.refl _ _).alloc (Nat.le_refl _) _).drew (World.ownsRow.drew (own_one (cs := #[.int .i64 e0, .int .i64 e1, .int .i64 e2, .int .i64 e3, .int .i64 e4, .int .i64 e5, .int .i64 e6, .int .i64 e7]) HBW5.out.size rfl))


set_option maxHeartbeats 2000000 in
theorem script_entry2s {B x : Nat} {v : Value} {l : List Nat} {w : World} (h : KBb B w v (x :: l)) (hB : B ≤ w.heap.size) (hb : ∀ z ∈ x :: l, z < 256) (hm : (x :: l).length ≤ 9000000000000000000) (hl : l = []) (hx0 : x % 4 = 2) :
    Calls Tryz.prog 25 #[v] w (EntryPost B w (x :: l)) := by
  have hx' : x < 256 := hb x (List.mem_cons_self ..)
  have HNO : Hid (∀ W v0, KBb B W v0 l → Calls Tryz.prog 22 #[v0, .int .i64 1] W fun e w' => e = .returned (.tuple #[.slice none 0 0, .int .i64 0, .bool false]) ∧ w' = W) := Go.Lib.hid (fun W v0 h => script_take_no 1 (by decide) h (by rw [hl]; decide))
  have HR : Hid (∀ W, Calls Tryz.prog 45 #[.agg #[.int .i64 2, .int .i64 0, .int .i64 0, .int .i64 0, .int .i64 0, .int .i64 0, .int .i64 0, .int .i64 0], .int .i64 ((x : Int) / 4 + 1)] W fun e w' => ∃ v, e = .returned v ∧ w'.ownsRow (W.heap.size + 1) 56 8 v (x / 4 + 1) (entRows (x / 4 + 1) (pickE 0)) ∧ Below W.heap.size W w') := Go.Lib.hid (fun W => by
    have := script_repeat (pickE 0) (x / 4 + 1) (by omega) W
    rwa [show (((x / 4 + 1 : Nat)) : Int) = ((x : Int) / 4 + 1) by omega] at this)
  have HE : Hid (entryP (x :: l) = none) := Go.Lib.hid (by rw [hl]; simp only [entryP]; rw [if_neg (by omega), if_neg (by omega)])
  have hc := h.form
  obtain ⟨g, off, c, rfl, hcap, hcell⟩ := KB.open h (by simp)
  have hx : x < 256 := hb x (List.mem_cons_self ..)
  have c0 := hcell 0 x rfl
  rw [Nat.add_zero] at c0
  have HD : Hid (KBb B w (.slice (if c = 1 then some ⟨g, off, none⟩ else some ⟨g, off + 1, none⟩) ((x :: l).length - 1) (c - 1)) l) := Go.Lib.hid (KB.drop h (m := 1) (by simp))
  have hand := u8_low x hx
  have hBb := Go.Lib.hid hb
  clear hc h hcell hb
  rw [List.length_cons] at *
  generalize hn : l.length = n at *
  have hn' := Go.Lib.hid hn
  clear hn
  rw [hx0] at hand
  clear hx0 hl
  go_enter Tryz.func25, Tryz.ntmps25
  go_wp2
  go_quiet (fail)
  have HD1 := Go.Lib.hid (HD.out.heap (w' := w.drewN nq) rfl)
  have HB0 : Hid (Below w.heap.size w (w.drewN nq)) := Go.Lib.hid (below_drewN nq)
  clear HD c0
  generalize w.drewN nq = W at *
  go_upto_region 2 with (fail)
  go_cut [0] from 22 to 23 (fun v0 wx => wx = W ∧ KBb B wx v0 l)
  case first =>
    by_cases hc1 : c = 1
    · have hn0 : n = 0 := by omega
      have HQ := HD1.out
      rw [if_pos hc1, hc1, hn0] at HQ
      have HD2 := Go.Lib.hid HQ
      clear HQ HD1
      subst hc1 hn0
      go_wp2
      go_meet
      exact ⟨rfl, HD2.out⟩
    · have HQ := HD1.out
      rw [if_neg hc1] at HQ
      have HD2 := Go.Lib.hid HQ
      clear HQ HD1
      go_wp2
      go_meet
      exact ⟨rfl, HD2.out⟩
  case rest =>
  obtain ⟨rfl, hvb⟩ := hcut
  have HV := Go.Lib.hid hvb
  clear hvb HD1
  go_wp2_with fail
  refine (HNO.out _ _ HV.out).mono ?_
  rintro e W2 ⟨rfl, rfl⟩
  clear HV HNO
  have hl6 : bits .and .i64 0 63 = 0 := i64_low6 0 (by decide)
  go_wp2_with fail
  refine (HR.out _).mono ?_
  rintro e w2 ⟨s, rfl, ho, hb2⟩
  have HB2 := Go.Lib.hid (HB0.out.trans (hb2.mono HB0.out.size))
  clear ho hb2
  go_wp2
  go_ret3
  exact ⟨_, _, _, rfl, HB2.out, (fun _ => rfl), (fun y t r q => by rw [HE.out] at q; cases q)⟩

set_option maxHeartbeats 2000000 in
theorem script_entry3s {B x : Nat} {v : Value} {l : List Nat} {w : World} (h : KBb B w v (x :: l)) (hB : B ≤ w.heap.size) (hb : ∀ z ∈ x :: l, z < 256) (hm : (x :: l).length ≤ 9000000000000000000) (hl : l = []) (hx0 : x % 4 = 3) :
    Calls Tryz.prog 25 #[v] w (EntryPost B w (x :: l)) := by
  have hx' : x < 256 := hb x (List.mem_cons_self ..)
  have HNO : Hid (∀ W v0, KBb B W v0 l → Calls Tryz.prog 22 #[v0, .int .i64 1] W fun e w' => e = .returned (.tuple #[.slice none 0 0, .int .i64 0, .bool false]) ∧ w' = W) := Go.Lib.hid (fun W v0 h => script_take_no 1 (by decide) h (by rw [hl]; decide))
  obtain ⟨FIN, hFIN⟩ : ∃ F : Option (Ent × List Nat), F = none := ⟨_, rfl⟩
  have HE : Hid (entryP (x :: l) = oneE FIN) := Go.Lib.hid (by rw [hl, hFIN]; simp only [entryP]; rw [if_neg (by omega), if_neg (by omega)]; rfl)
  have HFN := Go.Lib.hid hFIN
  clear hFIN
  have hc := h.form
  obtain ⟨g, off, c, rfl, hcap, hcell⟩ := KB.open h (by simp)
  have hx : x < 256 := hb x (List.mem_cons_self ..)
  have c0 := hcell 0 x rfl
  rw [Nat.add_zero] at c0
  have HD : Hid (KBb B w (.slice (if c = 1 then some ⟨g, off, none⟩ else some ⟨g, off + 1, none⟩) ((x :: l).length - 1) (c - 1)) l) := Go.Lib.hid (KB.drop h (m := 1) (by simp))
  have hand := u8_low x hx
  have hBb := Go.Lib.hid hb
  clear hc h hcell hb
  rw [List.length_cons] at *
  generalize hn : l.length = n at *
  have hn' := Go.Lib.hid hn
  clear hn
  rw [hx0] at hand
  clear hx0 hl
  go_enter Tryz.func25, Tryz.ntmps25
  go_wp2
  go_quiet (fail)
  have HD1 := Go.Lib.hid (HD.out.heap (w' := w.drewN nq) rfl)
  have HB0 : Hid (Below w.heap.size w (w.drewN nq)) := Go.Lib.hid (below_drewN nq)
  clear HD c0
  generalize w.drewN nq = W at *
  go_upto_region 2 with (fail)
  go_cut [0] from 22 to 23 (fun v0 wx => wx = W ∧ KBb B wx v0 l)
  case first =>
    by_cases hc1 : c = 1
    · have hn0 : n = 0 := by omega
      have HQ := HD1.out
      rw [if_pos hc1, hc1, hn0] at HQ
      have HD2 := Go.Lib.hid HQ
      clear HQ HD1
      subst hc1 hn0
      go_wp2
      go_meet
      exact ⟨rfl, HD2.out⟩
    · have HQ := HD1.out
      rw [if_neg hc1] at HQ
      have HD2 := Go.Lib.hid HQ
      clear HQ HD1
      go_wp2
      go_meet
      exact ⟨rfl, HD2.out⟩
  case rest =>
  obtain ⟨rfl, hvb⟩ := hcut
  have HV := Go.Lib.hid hvb
  clear hvb HD1
  go_wp2_with fail
  refine (HNO.out _ _ HV.out).mono ?_
  rintro e W2 ⟨rfl, rfl⟩
  clear HV HNO
  have FIN0 : Hid (FinO FIN B W2 (.slice none 0 0) false (shapeP (x / 4)) (Ent.mk 1 0 ((x : Int) / 4) 0 0 0 0 0)) := Go.Lib.hid ⟨fun q => (by cases q), fun _ => HFN.out⟩
  clear HFN
  have HP := Go.Lib.hid (fun W => script_parts (x / 4) W)
  have hxd : (((x / 4 : Nat)) : Int) = (x : Int) / 4 := by omega
  rw [hxd] at HP
  clear hxd
  go_upto_region 11 with (fail)
  have hal : Below W2.heap.size W2 (W2.alloc (.cells #[.int .i64 1, .int .i64 0, .int .i64 ((x : Int) / 4), .int .i64 0, .int .i64 0, .int .i64 0, .int .i64 0, .int .i64 0] 56)) := (Below.refl _ _).alloc (Nat.le_refl _) _
  have hrow0 := heap_alloc_new W2 (.cells #[.int .i64 1, .int .i64 0, .int .i64 ((x : Int) / 4), .int .i64 0, .int .i64 0, .int .i64 0, .int .i64 0, .int .i64 0] 56)
  have hsz3 : (W2.alloc (.cells #[.int .i64 1, .int .i64 0, .int .i64 ((x : Int) / 4), .int .i64 0, .int .i64 0, .int .i64 0, .int .i64 0, .int .i64 0] 56)).heap.size = W2.heap.size + 1 := by simp
  have HF0 : Hid (FinO FIN B (W2.alloc (.cells #[.int .i64 1, .int .i64 0, .int .i64 ((x : Int) / 4), .int .i64 0, .int .i64 0, .int .i64 0, .int .i64 0, .int .i64 0] 56)) (.slice none 0 0) false (shapeP (x / 4)) (Ent.mk 1 0 ((x : Int) / 4) 0 0 0 0 0)) := Go.Lib.hid (FIN0.out.below (Nat.le_trans hB HB0.out.size) hal)
  have HBW := Go.Lib.hid (HB0.out.trans (hal.mono HB0.out.size))
  have hg9 : w.heap.size ≤ W2.heap.size := HB0.out.size
  clear FIN0 hal HB0
  generalize (W2.alloc (.cells #[.int .i64 1, .int .i64 0, .int .i64 ((x : Int) / 4), .int .i64 0, .int .i64 0, .int .i64 0, .int .i64 0, .int .i64 0] 56)) = W3 at *
  generalize W2.heap.size = g9 at *
  go_wp2_with fail
  refine (HP.out _).mono ?_
  rintro e W4 ⟨vp, rfl, hpa, hb4⟩
  have HROW := Go.Lib.hid (row_below hb4 hrow0)
  have HBW4 := Go.Lib.hid (HBW.out.trans (hb4.mono HBW.out.size))
  have HF := Go.Lib.hid (HF0.out.below (Nat.le_trans hB HBW.out.size) hb4)
  rw [hsz3] at hpa
  have HPA := Go.Lib.hid hpa
  have hpa2 := hpa
  obtain ⟨pp, cp, rfl, _⟩ := hpa2
  have hlen := shape_len (x / 4)
  have HSD : Hid (∀ j, j < (shapeP (x / 4)).length → ∃ i k, 3 ≤ i ∧ i ≤ 7 ∧ 1 ≤ k ∧ k ≤ 4 ∧ (shapeP (x / 4))[j]? = some (i, k) ∧ (shapeP (x / 4)).drop j = (i, k) :: (shapeP (x / 4)).drop (j + 1)) := Go.Lib.hid (fun j hj => shape_drop hj)
  have HSE : Hid ((shapeP (x / 4)).drop (shapeP (x / 4)).length = []) := Go.Lib.hid (List.drop_length)
  clear hpa hb4 hrow0 HF0 HBW HP hsz3
  generalize hN : (shapeP (x / 4)).length = N at *
  have HN := Go.Lib.hid hN
  clear hN
  go_wp2
  go_loopw [0, 8, 59] (fun u0 u8 u59 wr => ∃ (j : Nat) (ok : Bool) (e0 e1 e2 e3 e4 e5 e6 e7 : Int), u59 = .int .i64 j ∧ u8 = .bool ok ∧ j ≤ N ∧ wr.heap[g9]? = some (.cells #[.int .i64 e0, .int .i64 e1, .int .i64 e2, .int .i64 e3, .int .i64 e4, .int .i64 e5, .int .i64 e6, .int .i64 e7] 56) ∧ FinO FIN B wr u0 ok ((shapeP (x / 4)).drop j) ⟨e0, e1, e2, e3, e4, e5, e6, e7⟩ ∧ PartsAt (g9 + 1) wr (.slice pp N cp) (shapeP (x / 4)) ∧ Below w.heap.size w wr) (fun _ _ i _ => N - (intOf i).toNat)
  case atStart => exact ⟨0, false, _, _, _, _, _, _, _, _, rfl, rfl, Nat.zero_le _, HROW.out, HF.out, HPA.out, HBW4.out⟩
  case round =>
    obtain ⟨j, ok, e0, e1, e2, e3, e4, e5, e6, e7, rfl, rfl, hj, hrow, hf, hpa, hbw⟩ := hrel
    have c0 : wr.cell? ⟨g9, 0, none⟩ = some (.int .i64 e0) := cell_of_row _ _ _ _ _ _ hrow
    have c1 : wr.cell? ⟨g9, 1, none⟩ = some (.int .i64 e1) := cell_of_row _ _ _ _ _ _ hrow
    have c2 : wr.cell? ⟨g9, 2, none⟩ = some (.int .i64 e2) := cell_of_row _ _ _ _ _ _ hrow
    have c3 : wr.cell? ⟨g9, 3, none⟩ = some (.int .i64 e3) := cell_of_row _ _ _ _ _ _ hrow
    have c4 : wr.cell? ⟨g9, 4, none⟩ = some (.int .i64 e4) := cell_of_row _ _ _ _ _ _ hrow
    have c5 : wr.cell? ⟨g9, 5, none⟩ = some (.int .i64 e5) := cell_of_row _ _ _ _ _ _ hrow
    have c6 : wr.cell? ⟨g9, 6, none⟩ = some (.int .i64 e6) := cell_of_row _ _ _ _ _ _ hrow
    have c7 : wr.cell? ⟨g9, 7, none⟩ = some (.int .i64 e7) := cell_of_row _ _ _ _ _ _ hrow
    have HROWr := Go.Lib.hid hrow
    have HFr := Go.Lib.hid hf
    have HPAr := Go.Lib.hid hpa
    have HBWr := Go.Lib.hid hbw
    clear hrow hf hpa hbw HROW HF HPA HBW4
    by_cases hlt : j < N
    · obtain ⟨i, k, hi3, hi7, hk1, hk4, hat, hdr⟩ := HSD.out j hlt
      obtain ⟨pp', cp', hq, hcell⟩ := HPAr.out
      obtain ⟨gp, hgp, hppq, p0, p1⟩ := hcell j i k hat
      injection hq with hq1 hq2 hq3
      subst hq1
      subst hppq
      clear hcell hq2 hq3 hat
      have hdr' := Go.Lib.hid hdr
      clear hdr
      have hen := fun args w => parts_enter i hi3 hi7 args w
      have HAT : Hid (∀ W, Calls Tryz.prog (atN i) #[.pointer (some ⟨g9, 0, none⟩)] W fun e w' => e = .returned (.pointer (some ⟨g9, i, none⟩)) ∧ w' = W) := Go.Lib.hid (fun W => parts_at i g9 hi3 hi7 W)
      have b1 : (0 : Int) ≤ (j : Int) := by omega
      have b2 : (j : Int) < (N : Int) := by omega
      cases ok with
      | false =>
        go_wp2_with fail
        have hal : Below wr.heap.size wr (wr.alloc (.cells #[.func (.func (atN i)) #[] #[], .int .i64 (k : Nat)] 105)) := (Below.refl _ _).alloc (Nat.le_refl _) _
        have hrow := row_below hal HROWr.out
        have HBW5 := Go.Lib.hid (HBWr.out.trans (hal.mono HBWr.out.size))
        have HF5 := Go.Lib.hid (HFr.out.below (Nat.le_trans hB HBWr.out.size) hal)
        have HPA5 := Go.Lib.hid (HPAr.out.below hal)
        clear hal c0 c1 c2 c3 c4 c5 c6 c7 p0 p1 HBWr HFr HROWr HPAr
        have p2 : (wr.alloc (.cells #[.func (.func (atN i)) #[] #[], .int .i64 (k : Nat)] 105)).cell? ⟨wr.heap.size, 0, none⟩ = some (.func (.func (atN i)) #[] #[]) := by go_simp
        have p3 : (wr.alloc (.cells #[.func (.func (atN i)) #[] #[], .int .i64 (k : Nat)] 105)).cell? ⟨wr.heap.size, 1, none⟩ = some (.int .i64 (k : Nat)) := by go_simp
        generalize (wr.alloc (.cells #[.func (.func (atN i)) #[] #[], .int .i64 (k : Nat)] 105)) = W5 at *
        have c0 : W5.cell? ⟨g9, 0, none⟩ = some (.int .i64 e0) := cell_of_row _ _ _ _ _ _ hrow
        have c1 : W5.cell? ⟨g9, 1, none⟩ = some (.int .i64 e1) := cell_of_row _ _ _ _ _ _ hrow
        have c2 : W5.cell? ⟨g9, 2, none⟩ = some (.int .i64 e2) := cell_of_row _ _ _ _ _ _ hrow
        have c3 : W5.cell? ⟨g9, 3, none⟩ = some (.int .i64 e3) := cell_of_row _ _ _ _ _ _ hrow
        have c4 : W5.cell? ⟨g9, 4, none⟩ = some (.int .i64 e4) := cell_of_row _ _ _ _ _ _ hrow
        have c5 : W5.cell? ⟨g9, 5, none⟩ = some (.int .i64 e5) := cell_of_row _ _ _ _ _ _ hrow
        have c6 : W5.cell? ⟨g9, 6, none⟩ = some (.int .i64 e6) := cell_of_row _ _ _ _ _ _ hrow
        have c7 : W5.cell? ⟨g9, 7, none⟩ = some (.int .i64 e7) := cell_of_row _ _ _ _ _ _ hrow
        have HROW5 := Go.Lib.hid hrow
        clear hrow
        go_region
        go_wp2
        go_ret3
        exact entry_end HE.out HF5.out (fun q => by cases q) (Nat.le_trans hB HBW5.out.size) HBW5.out ((Below.refl _ _).alloc (Nat.le_refl _) _).drew (World.ownsRow.drew (own_one (cs := #[.int .i64 e0, .int .i64 e1, .int .i64 e2, .int .i64 e3, .int .i64 e4, .int .i64 e5, .int .i64 e6, .int .i64 e7]) HBW5.out.size rfl))
      | true =>
        go_wp2_with fail
        have hal : Below wr.heap.size wr (wr.alloc (.cells #[.func (.func (atN i)) #[] #[], .int .i64 (k : Nat)] 105)) := (Below.refl _ _).alloc (Nat.le_refl _) _
        have hrow := row_below hal HROWr.out
        have HBW5 := Go.Lib.hid (HBWr.out.trans (hal.mono HBWr.out.size))
        have HF5 := Go.Lib.hid (HFr.out.below (Nat.le_trans hB HBWr.out.size) hal)
        have HPA5 := Go.Lib.hid (HPAr.out.below hal)
        clear hal c0 c1 c2 c3 c4 c5 c6 c7 HBWr HFr HROWr HPAr
        have p2 : (wr.alloc (.cells #[.func (.func (atN i)) #[] #[], .int .i64 (k : Nat)] 105)).cell? ⟨wr.heap.size, 0, none⟩ = some (.func (.func (atN i)) #[] #[]) := by go_simp
        have p3 : (wr.alloc (.cells #[.func (.func (atN i)) #[] #[], .int .i64 (k : Nat)] 105)).cell? ⟨wr.heap.size, 1, none⟩ = some (.int .i64 (k : Nat)) := by go_simp
        generalize (wr.alloc (.cells #[.func (.func (atN i)) #[] #[], .int .i64 (k : Nat)] 105)) = W5 at *
        have c0 : W5.cell? ⟨g9, 0, none⟩ = some (.int .i64 e0) := cell_of_row _ _ _ _ _ _ hrow
        have c1 : W5.cell? ⟨g9, 1, none⟩ = some (.int .i64 e1) := cell_of_row _ _ _ _ _ _ hrow
        have c2 : W5.cell? ⟨g9, 2, none⟩ = some (.int .i64 e2) := cell_of_row _ _ _ _ _ _ hrow
        have c3 : W5.cell? ⟨g9, 3, none⟩ = some (.int .i64 e3) := cell_of_row _ _ _ _ _ _ hrow
        have c4 : W5.cell? ⟨g9, 4, none⟩ = some (.int .i64 e4) := cell_of_row _ _ _ _ _ _ hrow
        have c5 : W5.cell? ⟨g9, 5, none⟩ = some (.int .i64 e5) := cell_of_row _ _ _ _ _ _ hrow
        have c6 : W5.cell? ⟨g9, 6, none⟩ = some (.int .i64 e6) := cell_of_row _ _ _ _ _ _ hrow
        have c7 : W5.cell? ⟨g9, 7, none⟩ = some (.int .i64 e7) := cell_of_row _ _ _ _ _ _ hrow
        obtain ⟨b, hbb, hbl, hbv, hbp⟩ := HF5.out.1 rfl
        have HTK : Hid (∀ W, W.heap = W5.heap → Calls Tryz.prog 22 #[u0, .int .i64 (k : Nat)] W fun e w' => e = .returned (.tuple #[if b.length < k then .slice none 0 0 else sliceFrom u0 k, .int .i64 (if b.length < k then 0 else numL (b.take k) : Nat), .bool (decide (k ≤ b.length))]) ∧ w' = W) := Go.Lib.hid (fun W hW => script_take_any k hk1 hk4 (hbv.heap hW) hbb hbl)
        have hbp' : partsP ((i, k) :: (shapeP (x / 4)).drop (j + 1)) ⟨e0, e1, e2, e3, e4, e5, e6, e7⟩ b = FIN := by rw [← hdr'.out]; exact hbp
        have HNX := Go.Lib.hid (fun (W : World) (hv : KBb B W u0 b) => FinO.next hk1 hbb hbl hv hbp')
        have HBV := Go.Lib.hid hbv
        clear hbp hbp' hbv
        generalize (if b.length < k then Value.slice none 0 0 else sliceFrom u0 k) = v9 at *
        generalize ((if b.length < k then 0 else numL (b.take k) : Nat)) = k9 at *
        generalize decide (k ≤ b.length) = o9 at *
        have HTK0 := Go.Lib.hid (HTK.out W5.drew rfl)
        obtain ⟨vi, ci⟩ : ∃ vi, W5.cell? ⟨g9, i, none⟩ = some vi := by
          rw [cell_of_row _ _ _ _ _ _ hrow]
          exact ⟨_, Array.getElem?_eq_getElem (by simp; omega)⟩
        have fi : W5.frozen? ⟨g9, i, none⟩ = false := frozen_of_row _ _ _ _ _ hrow
        obtain ⟨f0, f1, f2, f3, f4, f5, f6, f7, hset⟩ : ∃ f0 f1 f2 f3 f4 f5 f6 f7, (⟨e0, e1, e2, e3, e4, e5, e6, e7⟩ : Ent).set i (k9 : Nat) = ⟨f0, f1, f2, f3, f4, f5, f6, f7⟩ := ⟨_, _, _, _, _, _, _, _, rfl⟩
        have HREL : Hid ((W5.drew.setCell ⟨g9, i, none⟩ (.int .i64 (k9 : Nat))).heap[g9]? = some (.cells #[.int .i64 f0, .int .i64 f1, .int .i64 f2, .int .i64 f3, .int .i64 f4, .int .i64 f5, .int .i64 f6, .int .i64 f7] 56) ∧ FinO FIN B (W5.drew.setCell ⟨g9, i, none⟩ (.int .i64 (k9 : Nat))) v9 o9 ((shapeP (x / 4)).drop (j + 1)) ⟨f0, f1, f2, f3, f4, f5, f6, f7⟩ ∧ PartsAt (g9 + 1) (W5.drew.setCell ⟨g9, i, none⟩ (.int .i64 (k9 : Nat))) (.slice (some ⟨gp, 0, none⟩) N cp) (shapeP (x / 4)) ∧ Below w.heap.size w (W5.drew.setCell ⟨g9, i, none⟩ (.int .i64 (k9 : Nat)))) := Go.Lib.hid (by
          have h1 := row_set0 (j := i) (v := .int .i64 (k9 : Nat)) (show W5.drew.heap[g9]? = _ from hrow)
          have h2 := ent_set (⟨e0, e1, e2, e3, e4, e5, e6, e7⟩ : Ent) i (k9 : Nat) hi3 hi7
          rw [hset] at h2
          have h3 := HBW5.out.drew.setCell (p := ⟨g9, i, none⟩) (show w.heap.size ≤ g9 from hg9) (.int .i64 (k9 : Nat))
          have h4 : KBb B (W5.drew.setCell ⟨g9, i, none⟩ (.int .i64 (k9 : Nat))) u0 b := KB.keep HBV.out (fun q hq => Go.Deep.blk_setCell_other W5.drew ⟨g9, i, none⟩ _ q (by show q ≠ g9; omega))
          have h5 := HNX.out _ h4
          rw [hset] at h5
          exact ⟨h1.trans (congrArg (fun c => some (Obj.cells c 56 (0, 0))) h2), h5, PartsAt.set (HPA5.out.below (Below.refl _ _).drew) (show g9 < g9 + 1 by omega), h3⟩)
        have hrow5 := Go.Lib.hid hrow
        clear hrow hset HBV HNX HF5 HBW5 HPA5
        go_region_with (first
          | ((with_reducible refine (HAT.out _).mono ?_); rintro e w' ⟨rfl, rfl⟩)
          | ((with_reducible refine (HTK0.out).mono ?_); rintro e w' ⟨rfl, rfl⟩))
        all_goals
          go_wp2
          go_roundw
          case rel => exact ⟨j + 1, o9, f0, f1, f2, f3, f4, f5, f6, f7, by first | rfl | go_num, rfl, by omega, HREL.out.1, HREL.out.2.1, HREL.out.2.2.1, HREL.out.2.2.2⟩
          case measure => simp [intOf]; omega
    · have hjN : j = N := by omega
      subst hjN
      have HF5 := HFr
      have HBW5 := HBWr
      have HROW5 := HROWr
      clear HFr HBWr HROWr
      generalize hW5 : wr = W5 at *
      clear hW5
      go_wp2
      go_region
      go_wp2
      go_ret3
      exact entry_end HE.out HF5.out (fun _ => HSE.out) (Nat.le_trans hB HBW5.out.size) HBW5.out ((Below.refl _ _).alloc (Nat.le_refl _) _).drew (World.ownsRow.drew (own_one (cs := #[.int .i64 e0, .int .i64 e1, .int .i64 e2, .int .i64 e3, .int .i64 e4, .int .i64 e5, .int .i64 e6, .int .i64 e7]) HBW5.out.size rfl))


theorem script_entry {B : Nat} {v : Value} {b : List Nat} {w : World} (h : KBb B w v b) (h0 : b ≠ []) (hB : B ≤ w.heap.size) (hb : ∀ z ∈ b, z < 256) (hm : b.length ≤ 9000000000000000000) :
    Calls Tryz.prog 25 #[v] w (EntryPost B w b) := by
  cases b with
  | nil => exact absurd rfl h0
  | cons x l =>
    have h4 : x % 4 = 0 ∨ x % 4 = 1 ∨ x % 4 = 2 ∨ x % 4 = 3 := by omega
    rcases h4 with h4 | h4 | h4 | h4
    · exact script_entry0 h hB hb hm h4
    · exact script_entry1 h hB hb hm h4
    · cases l with
      | nil => exact script_entry2s h hB hb hm rfl h4
      | cons y l => exact script_entry2 h hB hb hm h4
    · cases l with
      | nil => exact script_entry3s h hB hb hm rfl h4
      | cons y l => exact script_entry3 h hB hb hm h4

end Go.Proofs.YtdemhabgaimnmaaGreatDoor
