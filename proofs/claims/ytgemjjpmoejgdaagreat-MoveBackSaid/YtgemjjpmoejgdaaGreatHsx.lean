/- A timer that is moved to and fro. -/
import Derived.Test.YtgemjjpmoejgdaaGreatHsw
namespace Go.Proofs.YtgemjjpmoejgdaaGreat
open Go.RowKit
set_option maxRecDepth 100000
set_option linter.unusedVariables false

set_option maxHeartbeats 1000000 in
theorem back1_con {E : G} {t n : Nat} {L : Lab} {w : World} (hb : Nat) :
    ConSim E.cf (prApp E.cf takeH) E t isHe n L w (.func (.func 41) #[] #[.pointer (some ⟨hb, 0, none⟩)]) (.ret (.user (hb, 0))) := by
  refine ⟨_, _, rfl, enters_of Tryz.func41 (by kernel_rfl) rfl, ?_⟩
  intro a L' w' S ha hx hg hbd
  cases a with
  | he nn gg ee =>
    rw [app_ret, prApp_user] at hbd ⊢
    by_cases hp : S.knows (hb, 0) ∧ S.knows (hb, 1)
    · rw [takeH_ok (hb, 0) nn gg ee S hp.1 hp.2]
      have hb' : Below w'.heap.size w' (w'.alloc (.cells #[.int .i64 nn, .int .i64 gg] 46)) := (Below.refl _ _).alloc (Nat.le_refl _) _
      have hg1 := hg.below hb'
      have h0 : (w'.alloc (.cells #[.int .i64 nn, .int .i64 gg] 46)).cell? ⟨w'.heap.size, 0, none⟩ = some (.int .i64 nn) := by go_simp
      have h1 : (w'.alloc (.cells #[.int .i64 nn, .int .i64 gg] 46)).cell? ⟨w'.heap.size, 1, none⟩ = some (.int .i64 gg) := by go_simp
      obtain ⟨⟨u1, c1⟩, f1, l1⟩ := hg1.knows hp.1
      obtain ⟨⟨u2, c2⟩, f2, l2⟩ := hg1.knows hp.2
      dsimp only at c1 f1 c2 f2
      have hk2 : (S.setR (hb, 0) (.int .i64 nn)).knows (hb, 1) := St.knows_setR.2 hp.2
      have HG := Go.Lib.hid ((hg1.setR hp.1 (.int .i64 nn)).setR hk2 (.int .i64 gg))
      have HD := Go.Lib.hid ((below_did hb' t L').trans (((hg1.shr_setR hp.1 (.int .i64 nn)).did t).trans (((hg1.setR hp.1 (.int .i64 nn)).shr_setR hk2 (.int .i64 gg)).did t)))
      show Calls _ _ #[_, _, _] _ _
      clear hg1 hg hbd hx ha hk2 hp l1 l2 hb'
      go_enter Tryz.func41, Tryz.ntmps41
      go_wp2
      go_ret
      refine ⟨_, L', rfl, HD.out, HG.out, ?_⟩
      cases n with
      | zero => trivial
      | succ n => rfl
    · rw [takeH_no (hb, 0) nn gg ee S hp] at hbd
      exact (St.burst_no hbd).elim
  | _ => exact absurd ha (by simp [isHe])
set_option maxHeartbeats 1000000 in
theorem back2_con {E : G} {t n : Nat} {L : Lab} {w : World} (b : Nat) :
    ConSim E.cf (prApp E.cf okE) E t isE n L w (.func (.func 43) #[] #[.pointer (some ⟨b, 0, none⟩)]) (.ret (.user (b, 0))) := by
  refine ⟨_, _, rfl, enters_of Tryz.func43 (by kernel_rfl) rfl, ?_⟩
  intro a L' w' S ha hx hg hbd
  cases a with
  | e x =>
    rw [app_ret, prApp_user] at hbd ⊢
    by_cases hp : S.knows (b, 0)
    · rw [okE_ok (b, 0) x S hp]
      by_cases he : x = 0
      · subst he
        skip
        rw [show decide ((0 : Int) = 0) = true by simp]
        obtain ⟨⟨u1, c1⟩, f1, l1⟩ := hg.knows hp
        have HG := Go.Lib.hid (hg.setR hp (.bool true))
        have HD := Go.Lib.hid ((hg.shr_setR hp (.bool true)).did t)
        dsimp only at c1 f1
        show Calls _ _ #[_, _] _ _
        clear hg hbd hx hp ha l1
        go_enter Tryz.func43, Tryz.ntmps43
        go_wp2
        go_ret
        refine ⟨_, L', rfl, HD.out, HG.out, ?_⟩
        cases n with
        | zero => trivial
        | succ n => rfl
      · have d_he : (x == 0) = false := by simp [he]
        have n_he : (x = 0) = False := by simp [he]
        rw [show decide (x = 0) = false by simp [he]]
        obtain ⟨⟨u1, c1⟩, f1, l1⟩ := hg.knows hp
        have HG := Go.Lib.hid (hg.setR hp (.bool false))
        have HD := Go.Lib.hid ((hg.shr_setR hp (.bool false)).did t)
        dsimp only at c1 f1
        show Calls _ _ #[_, _] _ _
        clear hg hbd hx hp ha l1
        go_enter Tryz.func43, Tryz.ntmps43
        go_wp2
        go_ret
        refine ⟨_, L', rfl, HD.out, HG.out, ?_⟩
        cases n with
        | zero => trivial
        | succ n => rfl
    · rw [show okE (b, 0) (.e x) S = (S.burst, none) from if_neg (fun q => hp q.2)] at hbd
      exact (St.burst_no hbd).elim
  | _ => exact absurd ha (by simp [isE])
/-- A slice of small numbers. -/
def BytesRow (w : World) (v : Value) (zs : List Nat) : Prop := ∃ p c, v = .slice p zs.length c ∧ ∀ (i z : Nat), zs[i]? = some z → ∃ a, p = some a ∧ w.cell? (a.add i) = some (.int .u8 (z : Int))
theorem ints_cells {w : World} {base : Nat} {e : TypeId} {v : Value} {l : List Nat} (h : w.ownsRow base e 1 v l.length (ints l)) : ∃ p cap, v = .slice p l.length cap ∧ ∀ (i t : Nat), l[i]? = some t → ∃ a, p = some a ∧ w.cell? (a.add i) = some (.int .i64 (t : Int)) := by
  obtain ⟨a, cap, rfl⟩ := own_form h
  rcases h.2 with ⟨e0, hn⟩ | ⟨g, cap', cur, e0, _, hb, h1, h2, h3, h4⟩
  · injection e0 with e1 e2 e3
    subst e1
    refine ⟨none, cap, by rw [hn], fun i d hi => ?_⟩
    have : l = [] := List.length_eq_zero_iff.1 hn
    subst this
    simp at hi
  · injection e0 with e1 e2 e3
    subst e1
    refine ⟨some ⟨g, 0, none⟩, cap, by subst e3; rfl, fun i t hi => ⟨_, rfl, ?_⟩⟩
    have hil : i < l.length := (List.getElem?_eq_some_iff.1 hi).1
    have hl : (ints l)[i]? = some (.int .i64 (t : Int)) := by unfold ints; rw [List.getElem?_map, hi]; rfl
    have e' : (⟨g, 0, none⟩ : Addr).add i = ⟨g, i, none⟩ := by
      unfold Addr.add
      split <;> simp_all
    rw [e', cell_of_row _ _ _ _ _ _ hb]
    rw [← h4, List.getElem?_take, if_pos (by omega)] at hl
    simpa using hl
def keptB (last s : Nat) : Nat := if last < s then 1 else 0
theorem keptB_succ (last s : Nat) : keptB last (s + 1) = keptB last s + (if s = last then 1 else 0) := by
  unfold keptB
  by_cases h : s = last
  · rw [if_pos (by omega), if_neg (by omega), if_pos h]
  · rw [if_neg h]
    by_cases h2 : last < s
    · rw [if_pos (by omega), if_pos h2]
    · rw [if_neg (by omega), if_neg h2]
theorem countP_take_succ {p : Nat → Bool} {l : List Nat} {i t : Nat} (h : l[i]? = some t) : (l.take (i + 1)).countP p = (l.take i).countP p + (if p t = true then 1 else 0) := by
  rw [List.take_add_one, h, List.countP_append]
  show _ + ([t]).countP p = _
  rw [List.countP_singleton]
/-- What may be let go of a box. -/
theorem moved_tick {c : Cf} {R : ShopR} {j last s t : Nat} {m : Nat → Nat} {fn ft : List Nat} {bx : Nat → List Nat} (hr : RelR c m R fn ft bx) (h : Moved c R j last) (hs : s < c.workers) (ht : t ∈ bx s) :
    part (m (c.ticketsAt + 3 * t)) 32 32 = c.first + 1 ∧ ((leaveB (((c.first + 1 : Nat)) : Int) (part (m (c.ticketsAt + 3 * t)) 16 16 : Nat) ((c.first + 1 : Nat) : Int) (j : Int) (last : Int) (s : Int) = true ∧ ¬ part (m (c.ticketsAt + 3 * t)) 16 16 = j) ∨ (leaveB (((c.first + 1 : Nat)) : Int) (part (m (c.ticketsAt + 3 * t)) 16 16 : Nat) ((c.first + 1 : Nat) : Int) (j : Int) (last : Int) (s : Int) = false ∧ part (m (c.ticketsAt + 3 * t)) 16 16 = j ∧ s = last)) := by
  obtain ⟨_, h2, h3, h4⟩ := h.all s (tickOf c m t) hs (by rw [hr.box s hs]; exact List.mem_map.2 ⟨t, ht, rfl⟩)
  have h2' : part (m (c.ticketsAt + 3 * t)) 32 32 = c.first + 1 := h2
  have h3' : part (m (c.ticketsAt + 3 * t)) 16 16 ≤ j := h3
  have h4' : part (m (c.ticketsAt + 3 * t)) 16 16 = j → s = last := h4
  refine ⟨h2', ?_⟩
  generalize part (m (c.ticketsAt + 3 * t)) 16 16 = v at *
  by_cases e : v = j
  · refine .inr ⟨?_, e, h4' e⟩
    have := h4' e
    unfold leaveB
    rw [decide_eq_false_iff_not]
    omega
  · refine .inl ⟨?_, e⟩
    unfold leaveB
    rw [decide_eq_true_iff]
    omega
theorem moved_count {c : Cf} {R : ShopR} {j last s : Nat} {m : Nat → Nat} {fn ft : List Nat} {bx : Nat → List Nat} (hr : RelR c m R fn ft bx) (h : Moved c R j last) (hs : s < c.workers) :
    (bx s).countP (fun t => decide (part (m (c.ticketsAt + 3 * t)) 16 16 = j)) = if s = last then 1 else 0 := by
  have := moved_box h hs
  rw [hr.box s hs, List.countP_map] at this
  exact this
/-- What the slots hold while the home of the timer is read. -/
def tab22 (ek ep gb kb ix hv j last sz : Nat) (gi : Int) : List (Nat × Nat × Value) := [(0, 109, .slice (some ⟨gb, 0, none⟩) sz sz), (1, 110, .pointer (some ⟨ek, 0, none⟩)), (2, 111, .pointer (some ⟨ep, 0, none⟩)), (3, 112, .pointer (some ⟨kb, 0, none⟩)), (4, 113, .int .i64 0), (5, 114, .int .i64 (ix : Int)), (6, 115, .pointer (some ⟨gb, ix, none⟩)), (7, 116, .int .u64 (hv : Int)), (8, 117, .agg #[.int .i64 gi, .int .i64 (j : Int), .int .i64 (last : Int)])]
theorem tab22_r (ek ep gb kb ix hv j last sz : Nat) (gi : Int) : (tab22 ek ep gb kb ix hv j last sz gi).map Prod.fst = List.range (tab22 ek ep gb kb ix hv j last sz gi).length := rfl
theorem tab22_n (ek ep gb kb ix hv j last sz : Nat) (gi : Int) : ((tab22 ek ep gb kb ix hv j last sz gi).map fun p => p.2.1).Nodup := by
  show [109, 110, 111, 112, 113, 114, 115, 116, 117].Nodup
  decide
theorem tab22_c (ek ep gb kb ix hv j last sz : Nat) (gi : Int) : (tab22 ek ep gb kb ix hv j last sz gi).all (fun p => decide (p.1 ≠ 9 ∧ p.2.1 ≠ 15)) = true := rfl
theorem tab22_s (ek ep gb kb ix hv j last sz : Nat) (gi : Int) : (tab22 ek ep gb kb ix hv j last sz gi).all (fun p => decide (p.1 ≠ 10)) = true := rfl
structure J22 (w0 : World) (gi : Int) (j last : Nat) (listed : Array Bool) (a : Act) (w : World) : Prop where
  bw : Below w0.heap.size w0 w
  o : listed.getD 10 true = true → listed.getD 9 true = true
  al : listed.getD 9 true = true → ∃ g, slotOf a 15 = .pointer (some ⟨g, 0, none⟩) ∧ w0.heap.size ≤ g ∧ (∃ u0 u1 u2, w.cell? ⟨g, 0, none⟩ = some u0 ∧ w.cell? ⟨g, 1, none⟩ = some u1 ∧ w.cell? ⟨g, 2, none⟩ = some u2 ∧ w.frozen? ⟨g, 0, none⟩ = false ∧ w.frozen? ⟨g, 1, none⟩ = false ∧ w.frozen? ⟨g, 2, none⟩ = false) ∧
    (listed.getD 10 true = true → w.cell? ⟨g, 0, none⟩ = some (.int .i64 gi) ∧ w.cell? ⟨g, 1, none⟩ = some (.int .i64 (j : Int)) ∧ w.cell? ⟨g, 2, none⟩ = some (.int .i64 (last : Int)))
theorem J22.quiet {w0 : World} {gi : Int} {j last : Nat} {listed : Array Bool} {a : Act} {w w' : World} {i d : Nat} {v : Value} (h : J22 w0 gi j last listed a w) (hi : i ≠ 9 ∧ i ≠ 10) (hd : d ≠ 15) (hb : Below w.heap.size w w') :
    J22 w0 gi j last (listed.setIfInBounds i true) (a.put (some d) v) w' := by
  refine ⟨h.bw.trans (hb.mono h.bw.size), ?_, ?_⟩
  · rw [getD_set_other _ (Ne.symm hi.1), getD_set_other _ (Ne.symm hi.2)]; exact h.o
  · rw [getD_set_other _ (Ne.symm hi.1), getD_set_other _ (Ne.symm hi.2), slot_put_other (Ne.symm hd)]
    intro q
    obtain ⟨g, e, hl, ⟨u0, u1, u2, c0, c1, c2, f0, f1, f2⟩, hr⟩ := h.al q
    exact ⟨g, e, hl, ⟨u0, u1, u2, below_cell hb c0, below_cell hb c1, below_cell hb c2, (hb.frozen (p := ⟨g, 0, none⟩) (cell_lt c0)).trans f0, (hb.frozen (p := ⟨g, 1, none⟩) (cell_lt c1)).trans f1, (hb.frozen (p := ⟨g, 2, none⟩) (cell_lt c2)).trans f2⟩, fun q2 => ⟨below_cell hb (hr q2).1, below_cell hb (hr q2).2.1, below_cell hb (hr q2).2.2⟩⟩
theorem J22.alloc {w0 : World} {gi : Int} {j last : Nat} {listed : Array Bool} {a : Act} {w : World} (ty : TypeId) (h : J22 w0 gi j last listed a w) (hun : listed.getD 9 true = false) (hds : 15 < a.tmps.size) :
    J22 w0 gi j last (listed.setIfInBounds 9 true) (a.put (some 15) (.pointer (some ⟨w.heap.size, 0, none⟩))) (w.alloc (.cells #[.int .i64 0, .int .i64 0, .int .i64 0] ty)) := by
  have hb : Below w.heap.size w (w.alloc (.cells #[.int .i64 0, .int .i64 0, .int .i64 0] ty)) := (Below.refl _ _).alloc (Nat.le_refl _) _
  refine ⟨h.bw.trans (hb.mono h.bw.size), fun _ => getD_set_true _ _, fun _ => ⟨w.heap.size, slot_put_same hds, h.bw.size, ⟨.int .i64 0, .int .i64 0, .int .i64 0, ?_, ?_, ?_, ?_, ?_, ?_⟩, fun q => ?_⟩⟩
  · simp
  · simp
  · simp
  · exact World.frozen?_alloc_new _ _ _ _
  · exact World.frozen?_alloc_new _ _ _ _
  · exact World.frozen?_alloc_new _ _ _ _
  · rw [getD_set_other _ (by decide)] at q
    have := h.o q
    rw [hun] at this
    cases this
theorem J22.store {w0 : World} {gi : Int} {j last : Nat} {listed : Array Bool} {a : Act} {w : World} (h : J22 w0 gi j last listed a w) (hl : listed.getD 9 true = true) :
    ∃ g u0 u1 u2, slotOf a 15 = .pointer (some ⟨g, 0, none⟩) ∧ w.cell? ⟨g, 0, none⟩ = some u0 ∧ w.cell? ⟨g, 1, none⟩ = some u1 ∧ w.cell? ⟨g, 2, none⟩ = some u2 ∧ w.frozen? ⟨g, 0, none⟩ = false ∧ w.frozen? ⟨g, 1, none⟩ = false ∧ w.frozen? ⟨g, 2, none⟩ = false ∧
      J22 w0 gi j last (listed.setIfInBounds 10 true) a (((w.setCell ⟨g, 0, none⟩ (.int .i64 gi)).setCell ⟨g, 1, none⟩ (.int .i64 (j : Int))).setCell ⟨g, 2, none⟩ (.int .i64 (last : Int))) := by
  obtain ⟨g, e, hge, ⟨u0, u1, u2, c0, c1, c2, f0, f1, f2⟩, _⟩ := h.al hl
  have n01 : (⟨g, 1, none⟩ : Addr) ≠ ⟨g, 0, none⟩ := by intro q; cases q
  have n02 : (⟨g, 2, none⟩ : Addr) ≠ ⟨g, 0, none⟩ := by intro q; cases q
  have n12 : (⟨g, 2, none⟩ : Addr) ≠ ⟨g, 1, none⟩ := by intro q; cases q
  have d0 : (((w.setCell ⟨g, 0, none⟩ (.int .i64 gi)).setCell ⟨g, 1, none⟩ (.int .i64 (j : Int))).setCell ⟨g, 2, none⟩ (.int .i64 (last : Int))).cell? ⟨g, 0, none⟩ = some (.int .i64 gi) :=
    (World.cell?_setCell_other _ _ _ _ n02).trans ((World.cell?_setCell_other _ _ _ _ n01).trans (World.cell?_setCell_same _ _ _ c0))
  have d1 : (((w.setCell ⟨g, 0, none⟩ (.int .i64 gi)).setCell ⟨g, 1, none⟩ (.int .i64 (j : Int))).setCell ⟨g, 2, none⟩ (.int .i64 (last : Int))).cell? ⟨g, 1, none⟩ = some (.int .i64 (j : Int)) :=
    (World.cell?_setCell_other _ _ _ _ n12).trans (World.cell?_setCell_same _ _ _ ((World.cell?_setCell_other _ _ _ _ (Ne.symm n01)).trans c1))
  have d2 : (((w.setCell ⟨g, 0, none⟩ (.int .i64 gi)).setCell ⟨g, 1, none⟩ (.int .i64 (j : Int))).setCell ⟨g, 2, none⟩ (.int .i64 (last : Int))).cell? ⟨g, 2, none⟩ = some (.int .i64 (last : Int)) :=
    World.cell?_setCell_same _ _ _ ((World.cell?_setCell_other _ _ _ _ (Ne.symm n12)).trans ((World.cell?_setCell_other _ _ _ _ (Ne.symm n02)).trans c2))
  refine ⟨g, u0, u1, u2, e, c0, c1, c2, f0, f1, f2, ⟨((h.bw.setCell hge _).setCell hge _).setCell hge _, fun _ => ?_, fun _ => ⟨g, e, hge, ⟨_, _, _, d0, d1, d2, ?_, ?_, ?_⟩, fun _ => ⟨d0, d1, d2⟩⟩⟩⟩
  · rw [getD_set_other _ (by decide)]; exact hl
  · simp only [World.frozen?_setCell]; exact f0
  · simp only [World.frozen?_setCell]; exact f1
  · simp only [World.frozen?_setCell]; exact f2
set_option maxHeartbeats 8000000 in
theorem law18_MoveBack (x : Nat → Int) (zs : List Nat) (v1 : Value) (w : World) (hrow : BytesRow w v1 zs) (hzs : ∀ z ∈ zs, z < 256) :
    Calls Tryz.prog 6 #[.agg #[.int .i64 (x 0), .int .i64 (x 1), .int .i64 (x 2), .int .i64 (x 3), .int .i64 (x 4), .int .i64 (x 5), .int .i64 (x 6), .int .i64 (x 7), .int .i64 (x 8), .int .i64 (x 9), .int .i64 (x 10), .int .i64 (x 11), .int .i64 (x 12)], v1] w fun e w' => e = .returned (.bool true) ∧ Below w.heap.size w w' := by
  have hb0 : Below w.heap.size w (w.alloc (.cells #[.int .i64 (x 0), .int .i64 (x 1), .int .i64 (x 2), .int .i64 (x 3), .int .i64 (x 4), .int .i64 (x 5), .int .i64 (x 6), .int .i64 (x 7), .int .i64 (x 8), .int .i64 (x 9), .int .i64 (x 10), .int .i64 (x 11), .int .i64 (x 12)] 23)) := (Below.refl _ _).alloc (Nat.le_refl _) _
  have HEC : Hid (Env (fun _ => 0) (w.alloc (.cells #[.int .i64 (x 0), .int .i64 (x 1), .int .i64 (x 2), .int .i64 (x 3), .int .i64 (x 4), .int .i64 (x 5), .int .i64 (x 6), .int .i64 (x 7), .int .i64 (x 8), .int .i64 (x 9), .int .i64 (x 10), .int .i64 (x 11), .int .i64 (x 12)] 23)) [(w.heap.size, [.int .i64 (x 0), .int .i64 (x 1), .int .i64 (x 2), .int .i64 (x 3), .int .i64 (x 4), .int .i64 (x 5), .int .i64 (x 6), .int .i64 (x 7), .int .i64 (x 8), .int .i64 (x 9), .int .i64 (x 10), .int .i64 (x 11), .int .i64 (x 12)])]) := Go.Lib.hid (Env.alloc_at (Env.nil _ w) (fun _ _ => rfl) [.int .i64 (x 0), .int .i64 (x 1), .int .i64 (x 2), .int .i64 (x 3), .int .i64 (x 4), .int .i64 (x 5), .int .i64 (x 6), .int .i64 (x 7), .int .i64 (x 8), .int .i64 (x 9), .int .i64 (x 10), .int .i64 (x 11), .int .i64 (x 12)] 23 (b := w.heap.size) rfl)
  have HB := Go.Lib.hid hb0
  have HR := Go.Lib.hid hrow
  have HZ := Go.Lib.hid hzs
  have HS := Go.Lib.hid (law15_Small x)
  have HBG := Go.Lib.hid (law15_Begin x)
  obtain ⟨p1, c1, rfl, hcells⟩ := id hrow
  have HCL := Go.Lib.hid hcells
  obtain ⟨n, hn⟩ : ∃ n, n = zs.length := ⟨_, rfl⟩
  rw [← hn]
  have HN := Go.Lib.hid hn
  clear hb0 hrow hzs HR hcells hn
  go_enter Tryz.func6, Tryz.ntmps6
  go_wp2_with fail
  generalize (w.alloc (.cells #[.int .i64 (x 0), .int .i64 (x 1), .int .i64 (x 2), .int .i64 (x 3), .int .i64 (x 4), .int .i64 (x 5), .int .i64 (x 6), .int .i64 (x 7), .int .i64 (x 8), .int .i64 (x 9), .int .i64 (x 10), .int .i64 (x 11), .int .i64 (x 12)] 23)) = w0 at *
  generalize hcb : w.heap.size = cb at HEC
  refine (law18_speaks _).mono ?_
  rintro e w1 ⟨rfl, hb1⟩
  replace HB := Go.Lib.hid (HB.out.trans (hb1.mono HB.out.size))
  replace HEC := Go.Lib.hid (HEC.out.below hb1)
  clear hb1
  have e0 := HEC.out.cell 0 0 rfl rfl
  have e1 := HEC.out.cell 0 1 rfl rfl
  have e2 := HEC.out.cell 0 2 rfl rfl
  have e3 := HEC.out.cell 0 3 rfl rfl
  have e4 := HEC.out.cell 0 4 rfl rfl
  have e5 := HEC.out.cell 0 5 rfl rfl
  have e6 := HEC.out.cell 0 6 rfl rfl
  have e7 := HEC.out.cell 0 7 rfl rfl
  have e8 := HEC.out.cell 0 8 rfl rfl
  have e9 := HEC.out.cell 0 9 rfl rfl
  have e10 := HEC.out.cell 0 10 rfl rfl
  have e11 := HEC.out.cell 0 11 rfl rfl
  have e12 := HEC.out.cell 0 12 rfl rfl
  go_wp2_with fail
  clear e0 e1 e2 e3 e4 e5 e6 e7 e8 e9 e10 e11 e12
  refine (HS.out _).mono ?_
  rintro e w2 ⟨rfl, hb1⟩
  replace HB := Go.Lib.hid (HB.out.trans (hb1.mono HB.out.size))
  replace HEC := Go.Lib.hid (HEC.out.below hb1)
  clear hb1
  clear HS
  by_cases hsm : smallI x
  · rw [decide_eq_true hsm]
    have HBE := Go.Lib.hid (HBG.out hsm)
    have hok := cfOf_ok hsm.1
    have hlo := fun i (hi : i < 13) => (hsm.1 i hi).1
    have g0 : (1 : Int) ≤ x 0 := hlo 0 (by decide)
    have g4 : (1 : Int) ≤ x 4 := hlo 4 (by decide)
    have g6 : (0 : Int) ≤ x 6 := hlo 6 (by decide)
    have k0 : x 0 ≤ 6 := hsm.2.1
    have k4 : x 4 ≤ 30 := hsm.2.2.2.2.2.1
    have hx0 : x 0 = ((cfOf x).workers : Int) := by show x 0 = ((x 0).toNat : Int); omega
    have hx4 : x 4 = ((cfOf x).tickets : Int) := by show x 4 = ((x 4).toNat : Int); omega
    have hx6 : x 6 = ((cfOf x).first : Int) := by show x 6 = ((x 6).toNat : Int); omega
    clear HBG hsm hlo
    generalize hc : cfOf x = c at *
    clear hc
    have hw0 : 0 < c.workers := hok.w1
    have hw6 : c.workers ≤ 6 := by omega
    have ht30 : c.tickets ≤ 30 := by omega
    by_cases hl25 : 25 < n
    · have hl1 : (25 : Int) < (n : Int) := by omega
      clear HEC hx0 hx4 hx6 hl25
      have hok0 := Go.Lib.hid hok
      clear HBE hok k0 k4 g0 g4 g6 hw0 hw6 ht30 HZ HCL HN
      go_wp2_with fail
      refine (law18_speaks _).mono ?_
      rintro e w3 ⟨rfl, hb1⟩
      have HB9 := Go.Lib.hid (HB.out.trans (hb1.mono HB.out.size))
      clear hb1
      go_wp2
      go_ret
      exact ⟨rfl, HB9.out⟩
    · have hl1 : ((25 : Int) < (n : Int)) = False := by simp; omega
      by_cases hl0 : n = 0
      · subst hl0
        clear HEC hx0 hx4 hx6 hl25 hl1
        have hok0 := Go.Lib.hid hok
        clear HBE hok k0 k4 g0 g4 g6 hw0 hw6 ht30 HZ HCL HN
        go_wp2_with fail
        refine (law18_speaks _).mono ?_
        rintro e w3 ⟨rfl, hb1⟩
        have HB9 := Go.Lib.hid (HB.out.trans (hb1.mono HB.out.size))
        clear hb1
        go_wp2
        go_ret
        exact ⟨rfl, HB9.out⟩
      · have hz1 : ((n : Int) == 0) = false := by simp; omega
        have hz2 : ((n : Int) = 0) = False := by simp; omega
        by_cases hlt : c.tickets ≤ n
        · have ht1 : x 4 ≤ (n : Int) := by omega
          have e4 : w2.cell? ⟨cb, 4, none⟩ = some (.int .i64 (x 4)) := HEC.out.cell 0 4 rfl rfl
          have e6 : w2.cell? ⟨cb, 6, none⟩ = some (.int .i64 (x 6)) := HEC.out.cell 0 6 rfl rfl
          clear HEC hx0 hx4 hx6
          clear hlt hl0 hl25
          have hok0 := Go.Lib.hid hok
          clear HBE hok k0 k4 g0 g4 g6 hw0 hw6 ht30 HZ HCL HN
          go_wp2_with fail
          refine (law18_speaks _).mono ?_
          rintro e w3 ⟨rfl, hb1⟩
          have HB9 := Go.Lib.hid (HB.out.trans (hb1.mono HB.out.size))
          clear hb1
          go_wp2
          go_ret
          exact ⟨rfl, HB9.out⟩
        · have ht1 : (x 4 ≤ (n : Int)) = False := by simp; omega
          by_cases hfi : c.first = 4294967295
          · have hf1 : (x 6 == 4294967295) = true := by simp; omega
            have hf2 : (x 6 = 4294967295) = True := by simp; omega
            have e4 : w2.cell? ⟨cb, 4, none⟩ = some (.int .i64 (x 4)) := HEC.out.cell 0 4 rfl rfl
            have e6 : w2.cell? ⟨cb, 6, none⟩ = some (.int .i64 (x 6)) := HEC.out.cell 0 6 rfl rfl
            clear HEC hx0 hx4 hx6
            clear hlt hl0 hl25 hfi
            have hok0 := Go.Lib.hid hok
            clear HBE hok k0 k4 g0 g4 g6 hw0 hw6 ht30 HZ HCL HN
            go_wp2_with fail
            refine (law18_speaks _).mono ?_
            rintro e w3 ⟨rfl, hb1⟩
            have HB9 := Go.Lib.hid (HB.out.trans (hb1.mono HB.out.size))
            clear hb1
            go_wp2
            go_ret
            exact ⟨rfl, HB9.out⟩
          · have hf1 : (x 6 == 4294967295) = false := by simp; omega
            have hf2 : (x 6 = 4294967295) = False := by simp; omega
            have HX := Go.Lib.hid (And.intro hx0 hx4)
            have e0 := HEC.out.cell 0 0 rfl rfl
            have e1 := HEC.out.cell 0 1 rfl rfl
            have e2 := HEC.out.cell 0 2 rfl rfl
            have e3 := HEC.out.cell 0 3 rfl rfl
            have e4 := HEC.out.cell 0 4 rfl rfl
            have e5 := HEC.out.cell 0 5 rfl rfl
            have e6 := HEC.out.cell 0 6 rfl rfl
            have e7 := HEC.out.cell 0 7 rfl rfl
            have e8 := HEC.out.cell 0 8 rfl rfl
            have e9 := HEC.out.cell 0 9 rfl rfl
            have e10 := HEC.out.cell 0 10 rfl rfl
            have e11 := HEC.out.cell 0 11 rfl rfl
            have e12 := HEC.out.cell 0 12 rfl rfl
            clear hx0 hx4 hx6 k0 k4 g0 g4 g6
            go_wp2_with fail
            clear hl1 hz1 hz2 ht1 hf1 hf2
            clear e0 e1 e2 e3 e4 e5 e6 e7 e8 e9 e10 e11 e12
            refine (HBE.out _).mono ?_
            rintro e w3 ⟨E, L, wb, rfl, hb3, hborn⟩
            obtain ⟨hcf, hgood, hbl, hold, hnr, hek⟩ := hborn
            obtain ⟨ek, ep, ea, ec, cf⟩ := E
            obtain rfl : cf = c := hcf
            have hb0 := HB.out.trans (hb3.mono HB.out.size)
            have HB3 := Go.Lib.hid (hb0.trans (hbl.mono hb0.size))
            have HOLD : Hid (∀ b, b < w.heap.size → L b = 0) := fun b hlt => hold b (Nat.lt_of_lt_of_le hlt hb0.size)
            have hb3' := hb3.trans (hbl.mono hb3.size)
            have HE : Hid (Env L w3 [(cb, [.int .i64 (x 0), .int .i64 (x 1), .int .i64 (x 2), .int .i64 (x 3), .int .i64 (x 4), .int .i64 (x 5), .int .i64 (x 6), .int .i64 (x 7), .int .i64 (x 8), .int .i64 (x 9), .int .i64 (x 10), .int .i64 (x 11), .int .i64 (x 12)])]) := Go.Lib.hid (fun p hp => ⟨hold _ (Nat.lt_of_lt_of_le (HEC.out p hp).2.1 hb3.size), (HEC.out.below hb3' p hp).2⟩)
            obtain ⟨hg4, hs4⟩ := hgood.newR [.int .i64 0, .int .i64 0] 46
            have HE4 := Go.Lib.hid (HE.out.shr hs4)
            have HS4 := Go.Lib.hid hs4
            have hT := start_any (t := 0) (m := 410) (E := ⟨ek, ep, ea, ec, cf⟩) (wk := 0) (ticks := 9) (shard := 0) (user := 0) (prApp_mono cf takeH takeH_mono) hg4 (back1_con (E := ⟨ek, ep, ea, ec, cf⟩) w3.heap.size) (by decide) (by decide)
            have HST := Go.Lib.hid hT
            clear hgood hbl hold hnr hek hb0 hb3 hb3' HBE HB HEC hg4 hs4 HE hT
            go_wp2_with fail
            generalize (w3.alloc (.cells #[.int .i64 0, .int .i64 0] 46)) = W4 at *
            generalize (fun b => if b = w3.heap.size then 5 else L b) = L4 at *
            have HB4 := Go.Lib.hid ((HS4.out.did 0).toP.below_old HB3.out (Nat.le_refl _) HOLD.out)
            have HOL4 : Hid (∀ b, b < w.heap.size → L4 b = 0) := Go.Lib.hid (fun b hlt => (HS4.out.lab b (Nat.lt_of_lt_of_le hlt HB3.out.size)).trans (HOLD.out b hlt))
            clear HS4 HB3 HOLD
            generalize w3.heap.size = kb at *
            refine HST.out.mono ?_
            rintro e w7 ⟨v, L7, rfl, hd7, hg7, hc7⟩
            have HC7 := Go.Lib.hid hc7
            obtain ⟨f, cap, rfl, _, _⟩ := hc7
            have HE7 := Go.Lib.hid (HE4.out.toDidP hd7.toP)
            have HB7 := Go.Lib.hid (hd7.toP.below_old HB4.out (Nat.le_refl _) HOL4.out)
            have HOL7 : Hid (∀ b, b < w.heap.size → L7 b = 0) := Go.Lib.hid (fun b hb => (hd7.toP.lab b (Nat.lt_of_lt_of_le hb HB4.out.size)).trans (HOL4.out b hb))
            clear HST hd7 HE4 HB4 HOL4
            have hba : Below w7.heap.size w7 (w7.alloc (.cells #[.func (.func f) #[] cap] 44)) := (Below.refl _ _).alloc (Nat.le_refl _) _
            have HG8 := Go.Lib.hid (hg7.below hba)
            replace HC7 := Go.Lib.hid (CodeSim.ext cf (prApp cf takeH) _ 0 HC7.out (below_ext hba 0 L7))
            replace HE7 := Go.Lib.hid (HE7.out.below hba)
            replace HB7 := Go.Lib.hid (HB7.out.trans (hba.mono HB7.out.size))
            clear hba hg7
            go_wp2_with fail
            generalize (w7.alloc (.cells #[.func (.func f) #[] cap] 44)) = W7 at *
            generalize w7.heap.size = sb at *
            have HT := Go.Lib.hid (HG8.out.task 0 (.func (.func f) #[] cap) 142)
            refine (step_New f #[] cap W7).mono ?_
            rintro e w8 ⟨rfl, rfl⟩
            generalize (fun b => if b = W7.heap.size then 5000 + 0 else L7 b) = L8 at *
            have hd8 : DidP (TP 0) L7 W7 L8 (W7.alloc (.cells #[.func (.func f) #[] cap, .int .i64 0] 142)) := ⟨rfl, rfl, rfl, by simp, fun b hb _ => Below.heap_alloc _ _ _ hb, HT.out.2.2.lab⟩
            have HK8 := Go.Lib.hid (CodeSim.ext cf (prApp cf takeH) _ 0 HC7.out HT.out.2.2)
            have HE8 := Go.Lib.hid (HE7.out.toDidP hd8)
            have HB8 := Go.Lib.hid (hd8.below_old HB7.out (Nat.le_refl _) HOL7.out)
            have HOL8 : Hid (∀ b, b < w.heap.size → L8 b = 0) := Go.Lib.hid (fun b hb => (hd8.lab b (Nat.lt_of_lt_of_le hb HB7.out.size)).trans (HOL7.out b hb))
            clear hd8 HC7 HE7 HB7 HOL7 HG8
            generalize (W7.alloc (.cells #[.func (.func f) #[] cap, .int .i64 0] 142)) = W8 at *
            generalize W7.heap.size = tb at *
            obtain ⟨m, S, hm1, hm2, hrun, hback⟩ := back_start (c := cf) (S := (S0 cf).newR kb [.int .i64 0, .int .i64 0]) hok hfi ht30 rfl rfl rfl rfl (St.newR_knows (S0 cf) kb _ (by decide)) (St.newR_knows (S0 cf) kb _ (by decide))
            have HRUN := Go.Lib.hid hrun; have HBK := Go.Lib.hid hback
            clear hrun hback
            have qc4 : W8.cell? ⟨cb, 4, none⟩ = some (.int .i64 (cf.tickets : Int)) := by rw [← HX.out.2]; exact HE8.out.cell 0 4 rfl rfl
            have hw1 : IntKind.i64.wrap (10 * (cf.tickets : Int)) = 10 * (cf.tickets : Int) := IntWalk.i64_in _ (by omega)
            have hw2 : IntKind.i64.wrap (60 + 10 * (cf.tickets : Int)) = ((60 + 10 * cf.tickets : Nat) : Int) := by rw [IntWalk.i64_in _ (by omega)]; omega
            go_wp2_with fail
            clear qc4 hw1 hw2
            have HF : Calls Tryz.prog 20 #[.pointer (some ⟨tb, 0, none⟩), .int .i64 ((60 + 10 * cf.tickets : Nat) : Int)] W8 _ := task_finish (most := 60 + 10 * cf.tickets) HT.out.1 HT.out.2.1 (by decide) (by omega) (by omega) (by decide) (CodeSim.le cf (prApp cf takeH) _ 0 HK8.out (by omega)) HRUN.out
            refine HF.mono ?_
            rintro e w9 ⟨v', L9, rfl, hg9, hd9, ht9⟩
            have HG9 := Go.Lib.hid hg9
            have HE9 := Go.Lib.hid (HE8.out.toDidP hd9)
            have HB9 := Go.Lib.hid (hd9.below_old HB8.out (Nat.le_refl _) HOL8.out)
            have HOL9 : Hid (∀ b, b < w.heap.size → L9 b = 0) := Go.Lib.hid (fun b hb => (hd9.lab b (Nat.lt_of_lt_of_le hb HB8.out.size)).trans (HOL8.out b hb))
            clear hg9 hd9 ht9 HF HT HK8 HE8 HB8 HOL8 HRUN hm1 hm2
            go_wp2
            go_loopw [9, 11, 12, 13, 75] (fun l9 _ _ _ i wr => ∃ (j last : Nat) (S : St) (L : Lab), i = .int .i64 j ∧ l9 = .int .i64 last ∧ j ≤ n ∧ Good ⟨ek, ep, ea, ec, cf⟩ L S wr ∧ Back cf S kb j last ∧ Below w.heap.size w wr ∧ (∀ b, b < w.heap.size → L b = 0) ∧ Env L wr [(cb, [.int .i64 (x 0), .int .i64 (x 1), .int .i64 (x 2), .int .i64 (x 3), .int .i64 (x 4), .int .i64 (x 5), .int .i64 (x 6), .int .i64 (x 7), .int .i64 (x 8), .int .i64 (x 9), .int .i64 (x 10), .int .i64 (x 11), .int .i64 (x 12)])]) (fun _ _ _ _ i _ => n - (intOf i).toNat)
            case atStart => exact ⟨0, 0, S, L9, rfl, rfl, Nat.zero_le _, HG9.out, HBK.out, HB9.out, HOL9.out, HE9.out⟩
            case round =>
              obtain ⟨j, last, S, L, rfl, rfl, hj, hg, hbk, hbw, hold, henv⟩ := hrel
              have HG1 := Go.Lib.hid hg; have HBK1 := Go.Lib.hid hbk; have HBW := Go.Lib.hid hbw; have HOL := Go.Lib.hid hold; have HEN := Go.Lib.hid henv
              clear hg hbk hbw hold henv HG9 HBK HB9 HOL9 HE9
              by_cases hjn : j < n
              · have hj1 : (0 : Int) ≤ (j : Int) := by omega
                have hj2 : (j : Int) < (n : Int) := by omega
                have hjl : j < zs.length := by rw [← HN.out]; exact hjn
                have hgi : zs[j]? = some zs[j] := List.getElem?_eq_getElem hjl
                have hzb := HZ.out zs[j] (List.getElem_mem hjl)
                generalize zs[j] = z at *
                obtain ⟨a5, rfl, hcell⟩ := HCL.out j z hgi
                have c0 : wr.cell? (a5.add j) = some (.int .u8 (z : Int)) := below_cell HBW.out hcell
                clear hgi hcell hjl
                have qc0 : wr.cell? ⟨cb, 0, none⟩ = some (.int .i64 (cf.workers : Int)) := by rw [← HX.out.1]; exact HEN.out.cell 0 0 rfl rfl
                obtain ⟨km, hkm⟩ : ∃ km, km = z % cf.workers := ⟨_, rfl⟩
                have hml : km < cf.workers := hkm ▸ Nat.mod_lt _ hw0
                have HKM := Go.Lib.hid hkm
                clear hkm
                have hz3 : (cf.workers = 0) = False := by simp; omega
                have hz4 : ((cf.workers : Int) = 0) = False := by simp; omega
                have hz1 : ((cf.workers : Int) == 0) = false := by simp; omega
                have hz2 : decide ((cf.workers : Int) = 0) = false := by simp; omega
                have hm1' : (z : Int).tmod (cf.workers : Int) = (km : Int) := by rw [Int.tmod_eq_emod_of_nonneg (by omega), HKM.out]; exact (Int.natCast_emod _ _).symm
                have hm2' : (z : Int) % (cf.workers : Int) = (km : Int) := by rw [HKM.out]; exact (Int.natCast_emod _ _).symm
                have hwb1 : IntKind.i64.wrap (z : Int) = (z : Int) := IntWalk.i64_in _ (by omega)
                have hwb2 : IntKind.i64.wrap (km : Int) = (km : Int) := IntWalk.i64_in _ (by omega)
                have hne : kb ≠ wr.heap.size := Nat.ne_of_lt (cell_lt (HG1.out.reads HBK1.out.h0))
                obtain ⟨hgn, hsn⟩ := HG1.out.newR [.bool false] 4
                have r0 : (wr.alloc (.cells #[.bool false] 4)).cell? ⟨kb, 0, none⟩ = some (.int .i64 0) := hgn.reads (St.newR_reads_old HBK1.out.h0)
                have r1 : (wr.alloc (.cells #[.bool false] 4)).cell? ⟨kb, 1, none⟩ = some (.int .i64 ((cf.first + 1 : Nat) : Int)) := hgn.reads (St.newR_reads_old HBK1.out.h1)
                have HSN := Go.Lib.hid hsn
                have HE1 := Go.Lib.hid (HEN.out.shr hsn)
                have HMG := Go.Lib.hid (migrate_any (t := 0) (m := 410) (E := ⟨ek, ep, ea, ec, cf⟩) (wk := 0) (n := 0) (g := ((cf.first + 1 : Nat) : Int)) (s := (km : Int)) (prApp_mono cf okE okE_mono) hgn (back2_con (E := ⟨ek, ep, ea, ec, cf⟩) wr.heap.size) (by decide))
                obtain ⟨m, T, hm1, hm2, hrun, hback, hread⟩ := back_move (ob := wr.heap.size) hok ht30 HBK1.out (by omega) hml hne
                have HRUN := Go.Lib.hid hrun; have HBK := Go.Lib.hid hback; have HRD := Go.Lib.hid hread
                clear hgn hsn HEN hrun hback hread hne HG1 HBK1
                generalize hfi1 : ((cf.first + 1 : Nat) : Int) = gi at *
                go_wp2_with fail
                clear c0 qc0 hz1 hz2 hz3 hz4 hm1' hm2' hwb1 hwb2 r0 r1 hfi1
                generalize (wr.alloc (.cells #[.bool false] 4)) = W1 at *
                generalize (fun b => if b = wr.heap.size then 5 else L b) = L1 at *
                have HB1 := Go.Lib.hid ((HSN.out.did 0).toP.below_old HBW.out (Nat.le_refl _) HOL.out)
                have HOL1 : Hid (∀ b, b < w.heap.size → L1 b = 0) := Go.Lib.hid (fun b hb => (HSN.out.lab b (Nat.lt_of_lt_of_le hb HBW.out.size)).trans (HOL.out b hb))
                clear HSN HBW HOL
                generalize wr.heap.size = ob at *
                refine HMG.out.mono ?_
                rintro e w7 ⟨v, L7, rfl, hd7, hg7, hc7⟩
                have HG7 := Go.Lib.hid hg7
                have HC7 := Go.Lib.hid hc7
                obtain ⟨f, cap, rfl, _, _⟩ := hc7
                have HE7 := Go.Lib.hid (HE1.out.toDidP hd7.toP)
                have HB7 := Go.Lib.hid (hd7.toP.below_old HB1.out (Nat.le_refl _) HOL1.out)
                have HOL7 : Hid (∀ b, b < w.heap.size → L7 b = 0) := Go.Lib.hid (fun b hb => (hd7.toP.lab b (Nat.lt_of_lt_of_le hb HB1.out.size)).trans (HOL1.out b hb))
                clear HMG hd7 hg7 HE1 HB1 HOL1
                have HT := Go.Lib.hid (HG7.out.task 0 (.func (.func f) #[] cap) 142)
                go_wp2_with fail
                refine (step_New f #[] cap w7).mono ?_
                rintro e w8 ⟨rfl, rfl⟩
                generalize (fun b => if b = w7.heap.size then 5000 + 0 else L7 b) = L8 at *
                have hd8 : DidP (TP 0) L7 w7 L8 (w7.alloc (.cells #[.func (.func f) #[] cap, .int .i64 0] 142)) := ⟨rfl, rfl, rfl, by simp, fun b hb _ => Below.heap_alloc _ _ _ hb, HT.out.2.2.lab⟩
                have HK8 := Go.Lib.hid (CodeSim.ext cf (prApp cf okE) _ 0 HC7.out HT.out.2.2)
                have HE8 := Go.Lib.hid (HE7.out.toDidP hd8)
                have HB8 := Go.Lib.hid (hd8.below_old HB7.out (Nat.le_refl _) HOL7.out)
                have HOL8 : Hid (∀ b, b < w.heap.size → L8 b = 0) := Go.Lib.hid (fun b hb => (hd8.lab b (Nat.lt_of_lt_of_le hb HB7.out.size)).trans (HOL7.out b hb))
                clear hd8 HC7 HE7 HB7 HOL7 HG7
                generalize (w7.alloc (.cells #[.func (.func f) #[] cap, .int .i64 0] 142)) = W8 at *
                generalize w7.heap.size = tb2 at *
                have qc4 : W8.cell? ⟨cb, 4, none⟩ = some (.int .i64 (cf.tickets : Int)) := by rw [← HX.out.2]; exact HE8.out.cell 0 4 rfl rfl
                have hw1 : IntKind.i64.wrap (10 * (cf.tickets : Int)) = 10 * (cf.tickets : Int) := IntWalk.i64_in _ (by omega)
                have hw2 : IntKind.i64.wrap (60 + 10 * (cf.tickets : Int)) = ((60 + 10 * cf.tickets : Nat) : Int) := by rw [IntWalk.i64_in _ (by omega)]; omega
                go_wp2_with fail
                clear qc4 hw1 hw2
                have HF : Calls Tryz.prog 20 #[.pointer (some ⟨tb2, 0, none⟩), .int .i64 ((60 + 10 * cf.tickets : Nat) : Int)] W8 _ := task_finish (most := 60 + 10 * cf.tickets) HT.out.1 HT.out.2.1 (by decide) (by omega) (by omega) (by decide) (CodeSim.le cf (prApp cf okE) _ 0 HK8.out (by omega)) HRUN.out
                refine HF.mono ?_
                rintro e w9 ⟨v', L9, rfl, hg9, hd9, ht9⟩
                have HG9 := Go.Lib.hid hg9
                have HE9 := Go.Lib.hid (HE8.out.toDidP hd9)
                have HB9 := Go.Lib.hid (hd9.below_old HB8.out (Nat.le_refl _) HOL8.out)
                have HOL9 : Hid (∀ b, b < w.heap.size → L9 b = 0) := Go.Lib.hid (fun b hb => (hd9.lab b (Nat.lt_of_lt_of_le hb HB8.out.size)).trans (HOL8.out b hb))
                have okc := hg9.reads HRD.out
                clear hg9 hd9 ht9 HF HT HK8 HE8 HB8 HOL8 HRUN hm1 hm2
                go_wp2
                refine ⟨⟨j + 1, km, T, L9, by go_num, rfl, by omega, HG9.out, HBK.out, HB9.out, HOL9.out, HE9.out⟩, by simp [intOf]; omega⟩
              · have hjn' : j = n := by omega
                subst hjn'
                have hjf : ((j : Int) < (j : Int)) = False := by simp
                have r0 : wr.cell? ⟨kb, 0, none⟩ = some (.int .i64 0) := HG1.out.reads HBK1.out.h0
                go_wp2_with fail
                clear hjf
                refine (core_cells HG1.out).mono ?_
                rintro e wi ⟨rfl, rfl⟩
                go_wp2_with fail
                refine (arena_all HG1.out.ar).mono ?_
                rintro e w5 ⟨rfl, hall⟩
                obtain ⟨R, fn, ft, bx, hrel, hmv⟩ := HBK1.out.rel
                have hn1 : S.n = cf.size := HBK1.out.n
                rw [hn1]
                have HG5 := Go.Lib.hid (HG1.out.below hall.bl)
                have HB5 := Go.Lib.hid (HBW.out.trans (hall.bl.mono HBW.out.size))
                have HE5 := Go.Lib.hid (HEN.out.below hall.bl)
                replace r0 := below_cell hall.bl r0
                have HA : Hid (∀ i, i < cf.size → w5.cell? ⟨wi.heap.size, i, none⟩ = some (.int .u64 (S.m i : Nat))) := Go.Lib.hid (fun i hi => by
                  have h := hall.c0 i (by rw [hn1]; exact hi)
                  rwa [if_pos (by rw [hn1]; exact hi)] at h)
                have HRE := Go.Lib.hid hrel; have HMV := Go.Lib.hid hmv; have HN1 := Go.Lib.hid hn1
                clear hall hn1 hrel hmv HG1 HBW HEN HOL HBK1
                generalize wi.heap.size = gb at *
                obtain ⟨ix, hix⟩ : ∃ ix, ix = cf.nodesAt + 4 * 0 + 1 := ⟨_, rfl⟩
                have hixs : ix < cf.size := by have := hok.n1; have := nodes_tickets cf; unfold Cf.size Cf.connsAt Cf.ticketsAt; omega
                have hhm : cf.home 0 = ((ix : Nat) : Int) := by rw [hix]; exact home_at 0 hok.n1
                have HHM := Go.Lib.hid (arm_home HG5.out 0)
                rw [hhm] at HHM
                have HPL := Go.Lib.hid (arm_plan HG5.out)
                have hno := HRE.out.nodeAt (x := 0) hok.n1
                have hm64 : ∀ i, S.m i < 18446744073709551616 := HG5.out.ar.m64
                have HHO : Hid (∀ W, Calls Tryz.prog 46 #[.int .u64 (S.m ix : Nat)] W fun e w' => e = .returned (.agg #[.int .i64 ((cf.first + 1 : Nat) : Int), .int .i64 (j : Int), .int .i64 (last : Int)]) ∧ Below W.heap.size W w') := Go.Lib.hid (fun W => by
                  obtain ⟨q1, q2, q3⟩ := HMV.out.home (by omega)
                  have h := of_HomeOf (S.m ix) W (hm64 _)
                  have e1 : part (S.m ix) 32 32 = cf.first + 1 := by rw [hix]; exact hno.hgen.trans q1
                  have e2 : part (S.m ix) 16 16 = j := by rw [hix]; exact hno.hver.trans q2
                  have e3 : part (S.m ix) 0 16 = last := by rw [hix]; exact hno.hshard.trans q3
                  rw [e1, e2, e3] at h
                  exact h)
                have eA : w5.cell? ⟨gb, ix, none⟩ = some (.int .u64 (S.m ix : Nat)) := HA.out ix hixs
                have hi1 : (0 : Int) ≤ (ix : Int) := by omega
                have hi2 : (ix : Int) < (cf.size : Int) := by omega
                have HM64 := Go.Lib.hid hm64
                clear hno hm64 hhm hix hixs
                generalize hgi : ((cf.first + 1 : Nat) : Int) = gi at *
                have HGI := Go.Lib.hid hgi
                clear hgi
                generalize hsv : S.m ix = hv at *
                clear hsv
                obtain ⟨sz, hsz0⟩ : ∃ sz, sz = cf.size := ⟨_, rfl⟩
                rw [← hsz0] at hi2 ⊢
                have HSZ := Go.Lib.hid hsz0
                clear hsz0
                go_wp2_with fail
                go_cut [15] from 109 to 117 (fun y wx => ∃ g, y = .pointer (some ⟨g, 0, none⟩) ∧ w5.heap.size ≤ g ∧ Below w5.heap.size w5 wx ∧ wx.cell? ⟨g, 0, none⟩ = some (.int .i64 gi) ∧ wx.cell? ⟨g, 1, none⟩ = some (.int .i64 (j : Int)) ∧ wx.cell? ⟨g, 2, none⟩ = some (.int .i64 (last : Int)))
                case first =>
                  rename_i J1 K1 hJ1 hK1
                  refine wp_region_fr [15, 109, 110, 111, 112, 113, 114, 115, 116, 117] (tab22 ek ep gb kb ix hv j last sz gi) (J22 w5 gi j last) (by kernel_rfl) (by kernel_rfl) (by kernel_rfl) ⟨(Below.refl _ _).drew, fun q => by simp at q, fun q => by simp at q⟩ ?_ ?_
                  · refine ⟨?_, ?_, ?_, ?_, ?_, ?_, ?_, ?_, ?_, ?_, ?_, trivial⟩
                    · intro listed a' w' hf hv' hj hun hdep K hK
                      have hsz : a'.tmps.size = 153 := hf.size
                      refine st_move _ rfl ((hf.rest 14 (by decide)).trans rfl) ?_
                      exact hK _ _ (hf.put (by decide)) (hv'.done (tab22_r _ _ _ _ _ _ _ _ _ _) (tab22_n _ _ _ _ _ _ _ _ _ _) rfl (by rw [hsz]; decide)) (hj.quiet (by decide) (by decide) (Below.refl _ _))
                    · intro listed a' w' hf hv' hj hun hdep K hK
                      have hsz : a'.tmps.size = 153 := hf.size
                      refine st_move _ rfl ((hf.rest 5 (by decide)).trans rfl) ?_
                      exact hK _ _ (hf.put (by decide)) (hv'.done (tab22_r _ _ _ _ _ _ _ _ _ _) (tab22_n _ _ _ _ _ _ _ _ _ _) rfl (by rw [hsz]; decide)) (hj.quiet (by decide) (by decide) (Below.refl _ _))
                    · intro listed a' w' hf hv' hj hun hdep K hK
                      have hsz : a'.tmps.size = 153 := hf.size
                      have e110 := hv'.get 1 rfl (hdep 1 (by kernel_rfl))
                      refine st_call #[.pointer (some ⟨ek, 0, none⟩)] rfl (enters_of Tryz.func47 (by kernel_rfl) rfl) (by simp [slot_eval, e110]) ?_
                      refine (HPL.out _ hj.bw).mono ?_
                      rintro e w2 ⟨rfl, hb⟩
                      exact ⟨_, rfl, hK _ _ (hf.put (by decide)) (hv'.done (tab22_r _ _ _ _ _ _ _ _ _ _) (tab22_n _ _ _ _ _ _ _ _ _ _) rfl (by rw [hsz]; decide)) (hj.quiet (by decide) (by decide) hb)⟩
                    · intro listed a' w' hf hv' hj hun hdep K hK
                      have hsz : a'.tmps.size = 153 := hf.size
                      have e6 : slotOf a' 6 = .pointer (some ⟨kb, 0, none⟩) := (hf.rest 6 (by decide)).trans rfl
                      refine st_gen rfl ?_
                      unfold Oper.wp execOp
                      dsimp only
                      rw [slot_eval, e6]
                      go_simp
                      exact hK _ _ (hf.put (by decide)) (hv'.done (tab22_r _ _ _ _ _ _ _ _ _ _) (tab22_n _ _ _ _ _ _ _ _ _ _) rfl (by rw [hsz]; decide)) (hj.quiet (by decide) (by decide) (Below.refl _ _))
                    · intro listed a' w' hf hv' hj hun hdep K hK
                      have hsz : a'.tmps.size = 153 := hf.size
                      have e112 := hv'.get 3 rfl (hdep 3 (by kernel_rfl))
                      have q : w'.cell? ⟨kb, 0, none⟩ = some (.int .i64 0) := below_cell hj.bw r0
                      refine st_gen rfl ?_
                      unfold Oper.wp execOp
                      dsimp only
                      rw [slot_eval, e112]
                      go_simp
                      exact hK _ _ (hf.put (by decide)) (hv'.done (tab22_r _ _ _ _ _ _ _ _ _ _) (tab22_n _ _ _ _ _ _ _ _ _ _) rfl (by rw [hsz]; decide)) (hj.quiet (by decide) (by decide) (Below.refl _ _))
                    · intro listed a' w' hf hv' hj hun hdep K hK
                      have hsz : a'.tmps.size = 153 := hf.size
                      have e111 := hv'.get 2 rfl (hdep 2 (by kernel_rfl))
                      have e113 := hv'.get 4 rfl (hdep 4 (by kernel_rfl))
                      refine st_call #[.pointer (some ⟨ep, 0, none⟩), .int .i64 0] rfl (enters_of Tryz.func48 (by kernel_rfl) rfl) (by simp [slot_eval, e111, e113]) ?_
                      refine (HHM.out _ hj.bw).mono ?_
                      rintro e w2 ⟨rfl, hb⟩
                      exact ⟨_, rfl, hK _ _ (hf.put (by decide)) (hv'.done (tab22_r _ _ _ _ _ _ _ _ _ _) (tab22_n _ _ _ _ _ _ _ _ _ _) rfl (by rw [hsz]; decide)) (hj.quiet (by decide) (by decide) hb)⟩
                    · intro listed a' w' hf hv' hj hun hdep K hK
                      have hsz : a'.tmps.size = 153 := hf.size
                      have e109 := hv'.get 0 rfl (hdep 0 (by kernel_rfl))
                      have e114 := hv'.get 5 rfl (hdep 5 (by kernel_rfl))
                      refine st_gen rfl ?_
                      unfold Oper.wp execOp
                      dsimp only
                      rw [slot_eval, slot_eval, e109, e114]
                      go_simp
                      exact hK _ _ (hf.put (by decide)) (hv'.done (tab22_r _ _ _ _ _ _ _ _ _ _) (tab22_n _ _ _ _ _ _ _ _ _ _) rfl (by rw [hsz]; decide)) (hj.quiet (by decide) (by decide) (Below.refl _ _))
                    · intro listed a' w' hf hv' hj hun hdep K hK
                      have hsz : a'.tmps.size = 153 := hf.size
                      have e115 := hv'.get 6 rfl (hdep 6 (by kernel_rfl))
                      have q : w'.cell? ⟨gb, ix, none⟩ = some (.int .u64 (hv : Int)) := below_cell hj.bw eA
                      refine st_gen rfl ?_
                      unfold Oper.wp execOp
                      dsimp only
                      rw [slot_eval, e115]
                      go_simp
                      exact hK _ _ (hf.put (by decide)) (hv'.done (tab22_r _ _ _ _ _ _ _ _ _ _) (tab22_n _ _ _ _ _ _ _ _ _ _) rfl (by rw [hsz]; decide)) (hj.quiet (by decide) (by decide) (Below.refl _ _))
                    · intro listed a' w' hf hv' hj hun hdep K hK
                      have hsz : a'.tmps.size = 153 := hf.size
                      have e116 := hv'.get 7 rfl (hdep 7 (by kernel_rfl))
                      refine st_call #[.int .u64 (hv : Int)] rfl (enters_of Tryz.func46 (by kernel_rfl) rfl) (by simp [slot_eval, e116]) ?_
                      refine (HHO.out _).mono ?_
                      rintro e w2 ⟨rfl, hb⟩
                      exact ⟨_, rfl, hK _ _ (hf.put (by decide)) (hv'.done (tab22_r _ _ _ _ _ _ _ _ _ _) (tab22_n _ _ _ _ _ _ _ _ _ _) rfl (by rw [hsz]; decide)) (hj.quiet (by decide) (by decide) hb)⟩
                    · intro listed a' w' hf hv' hj hun hdep K hK
                      have hsz : a'.tmps.size = 153 := hf.size
                      refine st_gen rfl ?_
                      unfold Oper.wp execOp
                      dsimp only
                      go_simp
                      exact hK _ _ (hf.put (by decide)) (hv'.other (tab22_c _ _ _ _ _ _ _ _ _ _)) (hj.alloc _ hun (by rw [hsz]; decide))
                    · intro listed a' w' hf hv' hj hun hdep K hK
                      have hsz : a'.tmps.size = 153 := hf.size
                      have e117 := hv'.get 8 rfl (hdep 8 (by kernel_rfl))
                      obtain ⟨g, u0, u1, u2, e15, hc0, hc1, hc2, hf0, hf1, hf2, hnx⟩ := hj.store (hdep 9 (by kernel_rfl))
                      refine st_gen rfl ?_
                      unfold Oper.wp execOp
                      dsimp only
                      rw [slot_eval, slot_eval, e15, e117]
                      go_simp
                      exact hK _ _ hf (hv'.skip (tab22_s _ _ _ _ _ _ _ _ _ _)) hnx
                  · intro listed a' w' hf hv' hj hall
                    obtain ⟨g, e15, hge, _, hr⟩ := hj.al (hall 9 (by decide))
                    obtain ⟨x0, x1, x2⟩ := hr (hall 10 (by decide))
                    refine hK1 _ _ (Met.intro (hJ1 _ _ ⟨slotOf a' 15, slotOf a' 109, slotOf a' 110, slotOf a' 111, slotOf a' 112, slotOf a' 113, slotOf a' 114, slotOf a' 115, slotOf a' 116, slotOf a' 117, ⟨g, e15, hge, hj.bw, x0, x1, x2⟩, ?lit⟩))
                    refine hf.lit.trans ?_
                    kernel_rfl
                case rest =>
                  obtain ⟨ob2, rfl, hge, hbx, x0, x1, x2⟩ := hcut
                  have HE7 := Go.Lib.hid (HE5.out.below hbx)
                  have qc0 : wc.cell? ⟨cb, 0, none⟩ = some (.int .i64 (cf.workers : Int)) := by rw [← HX.out.1]; exact HE7.out.cell 0 0 rfl rfl
                  have HG7 := Go.Lib.hid (HG5.out.below hbx)
                  have HB7 := Go.Lib.hid (HB5.out.trans (hbx.mono HB5.out.size))
                  have HA7 : Hid (∀ i, i < cf.size → wc.cell? ⟨gb, i, none⟩ = some (.int .u64 (S.m i : Nat))) := Go.Lib.hid (fun i hi => below_cell hbx (HA.out i hi))
                  have HX3 := Go.Lib.hid (And.intro x0 (And.intro x1 x2))
                  clear hbx HG5 HB5 HE5 HA x0 x1 x2 hge r0 eA hi1 hi2 HPL HHM HHO
                  go_wp2_with fail
                  clear qc0
                  generalize wc = W7 at *
                  go_wp2
                  go_loopw [16, 17, 19, 120] (fun k16 _ _ i wr => ∃ s : Nat, i = .int .i64 s ∧ k16 = .int .i64 (keptB last s : Nat) ∧ s ≤ cf.workers ∧ Below W7.heap.size W7 wr) (fun _ _ _ i _ => cf.workers - (intOf i).toNat)
                  case atStart => exact ⟨0, rfl, rfl, Nat.zero_le _, Below.refl _ _⟩
                  case round =>
                    obtain ⟨s, rfl, rfl, hs, hbw⟩ := hrel
                    have HBW := Go.Lib.hid hbw
                    clear hbw
                    by_cases hsw : s < cf.workers
                    · have hs1 : (s : Int) < (cf.workers : Int) := by omega
                      have HG8 := Go.Lib.hid (HG7.out.below HBW.out)
                      go_wp2_with fail
                      refine (core_box HG8.out (s : Int)).mono ?_
                      rintro e w8 ⟨rfl, hb8⟩
                      replace HG8 := Go.Lib.hid (HG8.out.below hb8)
                      replace HBW := Go.Lib.hid (HBW.out.trans (hb8.mono HBW.out.size))
                      clear hb8
                      go_wp2_with fail
                      refine (box_list HG8.out HN1.out HRE.out.shop hsw).mono ?_
                      rintro e w9 ⟨v, rfl, hown, hb9⟩
                      obtain ⟨pl, cl, rfl, hlc⟩ := ints_cells hown
                      have HLC := Go.Lib.hid hlc
                      replace HG8 := Go.Lib.hid (HG8.out.below hb9)
                      replace HBW := Go.Lib.hid (HBW.out.trans (hb9.mono HBW.out.size))
                      clear hb9 hown hlc
                      obtain ⟨ln, hln⟩ : ∃ ln, ln = (bx s).length := ⟨_, rfl⟩
                      rw [← hln]
                      have HLN := Go.Lib.hid hln
                      have hl30 : ln ≤ 30 := by
                        have h2 := nodup_length _ (bx s) (HRE.out.shop.bnd s hsw) (HRE.out.shop.blt s hsw)
                        omega
                      clear hln
                      go_wp2
                      go_loopw [16, 19, 128] (fun k16 _ i wr => ∃ i' : Nat, i = .int .i64 i' ∧ k16 = .int .i64 ((keptB last s + ((bx s).take i').countP (fun t => decide (part (S.m (cf.ticketsAt + 3 * t)) 16 16 = j)) : Nat) : Int) ∧ i' ≤ ln ∧ Below w9.heap.size w9 wr) (fun _ _ i _ => ln - (intOf i).toNat)
                      case atStart => exact ⟨0, rfl, rfl, Nat.zero_le _, Below.refl _ _⟩
                      case round =>
                        obtain ⟨i', rfl, rfl, hil, hbw2⟩ := hrel
                        have HBV := Go.Lib.hid hbw2
                        clear hbw2
                        by_cases hil2 : i' < ln
                        · have hi1 : (0 : Int) ≤ (i' : Int) := by omega
                          have hi2 : (i' : Int) < (ln : Int) := by omega
                          have hjl : i' < (bx s).length := by rw [← HLN.out]; exact hil2
                          have hgi : (bx s)[i']? = some (bx s)[i'] := List.getElem?_eq_getElem hjl
                          generalize (bx s)[i'] = t at *
                          have htm : t ∈ bx s := List.mem_of_getElem? hgi
                          obtain ⟨a9, rfl, hc9⟩ := HLC.out i' t hgi
                          have c0 : wr.cell? (a9.add i') = some (.int .i64 (t : Int)) := below_cell HBV.out hc9
                          have htl : t < cf.tickets := HRE.out.shop.blt s hsw t htm
                          obtain ⟨hp1, hlv⟩ := moved_tick HRE.out HMV.out hsw htm
                          have hcp := countP_take_succ (p := fun t => decide (part (S.m (cf.ticketsAt + 3 * t)) 16 16 = j)) hgi
                          have hcl : ((bx s).take i').countP (fun t => decide (part (S.m (cf.ticketsAt + 3 * t)) 16 16 = j)) ≤ 30 := by
                            have h1 := List.countP_le_length (p := fun t => decide (part (S.m (cf.ticketsAt + 3 * t)) 16 16 = j)) (l := (bx s).take i')
                            have h2 := nodup_length _ (bx s) (HRE.out.shop.bnd s hsw) (HRE.out.shop.blt s hsw)
                            rw [List.length_take] at h1
                            omega
                          have HGW := HG8.out.below HBV.out
                          obtain ⟨kx, hkx⟩ : ∃ kx, kx = cf.ticketsAt + 3 * t := ⟨_, rfl⟩
                          have hkxs : kx < cf.size := by unfold Cf.size Cf.connsAt; omega
                          have HKY := Go.Lib.hid (arm_key HGW (t : Int))
                          have hkk : cf.key (t : Int) = ((kx : Nat) : Int) := by rw [hkx]; exact ticket_at cf t htl 0
                          rw [hkk] at HKY
                          have HPL := Go.Lib.hid (arm_plan HGW)
                          have hko := fun W => of_KeyOf (S.m kx) W (HM64.out kx)
                          rw [← hkx] at hp1 hlv
                          rw [← hkx] at hcp
                          rw [hp1] at hko
                          rw [HGI.out] at hko hlv
                          have eK : wr.cell? ⟨gb, kx, none⟩ = some (.int .u64 (S.m kx : Nat)) := below_cell HBV.out (below_cell HBW.out (HA7.out kx hkxs))
                          have m0 := below_cell HBV.out (below_cell HBW.out HX3.out.1)
                          have m1 := below_cell HBV.out (below_cell HBW.out HX3.out.2.1)
                          have m2 := below_cell HBV.out (below_cell HBW.out HX3.out.2.2)
                          have hx1 : (0 : Int) ≤ (kx : Int) := by omega
                          have hx2 : (kx : Int) < (sz : Int) := by have := HSZ.out; omega
                          generalize part (S.m kx) 16 16 = ver at *
                          generalize part (S.m kx) 0 16 = nd at *
                          generalize S.m kx = kv at *
                          have HLV := Go.Lib.hid (fun W => move_leave gi (ver : Int) (nd : Int) gi (j : Int) (last : Int) (s : Int) W)
                          generalize leaveB gi (ver : Int) gi (j : Int) (last : Int) (s : Int) = lv at *
                          have HKO := Go.Lib.hid hko
                          have HLW := Go.Lib.hid hlv
                          have HCP := Go.Lib.hid hcp
                          generalize ((bx s).take i').countP (fun t => decide (part (S.m (cf.ticketsAt + 3 * t)) 16 16 = j)) = cnt at *
                          have hk1 : keptB last s ≤ 1 := by unfold keptB; split <;> omega
                          obtain ⟨K, hK⟩ : ∃ K, K = keptB last s + cnt := ⟨_, rfl⟩
                          have hwk : IntKind.i64.wrap ((K : Int) + 1) = ((K + 1 : Nat) : Int) := by rw [IntWalk.i64_in _ (by omega)]; omega
                          rw [← hK]
                          have HKK := Go.Lib.hid hK
                          clear hK hcp hlv hko hp1 hkx hkk hkxs htl htm hgi hjl hc9 HGW hk1 hcl
                          go_wp2_with fail
                          have m0' : ∀ d os, (Sort.grow (redrawn wr d) os).cell? ⟨ob2, 0, none⟩ = some _ := fun d os => cell_regrown m0 d os
                          have m1' : ∀ d os, (Sort.grow (redrawn wr d) os).cell? ⟨ob2, 1, none⟩ = some _ := fun d os => cell_regrown m1 d os
                          have m2' : ∀ d os, (Sort.grow (redrawn wr d) os).cell? ⟨ob2, 2, none⟩ = some _ := fun d os => cell_regrown m2 d os
                          have eK' : ∀ d os, (Sort.grow (redrawn wr d) os).cell? ⟨gb, kx, none⟩ = some (.int .u64 (kv : Nat)) := fun d os => cell_regrown eK d os
                          refine wp_region_below_tail 11 (by kernel_rfl) (by kernel_rfl) ?_
                          simp only [List.take_succ_cons, List.take_zero, List.drop_succ_cons, List.drop_zero]
                          repeat (go_big_quiet_step (first
                            | (go_at_call 47; rename_i p; exact Calls.regrown_of (HPL.out _ (below_regrown wr p.d p.os)))
                            | (go_at_call 50; rename_i p; exact Calls.regrown_of (HKY.out _ (below_regrown wr p.d p.os)))
                            | (go_at_call 49; rename_i p; exact Calls.regrown_of (HKO.out _))
                            | (go_at_call 39; rename_i p; exact Calls.regrown_of (HLV.out _))))
                          refine wpQuiet_nil ?_
                          intro W9 hw'
                          obtain ⟨p, rfl⟩ := hw'
                          have hb := below_regrown wr p.d p.os
                          have HBU := Go.Lib.hid (HBV.out.trans (hb.mono HBV.out.size))
                          clear m0' m1' m2' eK' m0 m1 m2 eK c0 hb HPL HKY HKO HLV hx1 hx2
                          generalize Sort.grow (redrawn wr p.d) p.os = W9 at *
                          rcases HLW.out with ⟨hq, hne⟩ | ⟨hq, heq, hsl⟩
                          · subst hq
                            go_wp2
                            refine ⟨⟨i' + 1, by go_num, ?_, by omega, HBU.out⟩, by simp [intOf]; omega⟩
                            rw [HCP.out, if_neg (by simp; exact hne), HKK.out]
                            rfl
                          · subst hq
                            have hn1 : ((s : Int) != (last : Int)) = false := by simp [hsl]
                            have hn2 : ((s : Int) = (last : Int)) = True := by simp [hsl]
                            have hn3 : decide ((s : Int) ≠ (last : Int)) = false := by simp [hsl]
                            go_wp2
                            refine ⟨⟨i' + 1, by go_num, ?_, by omega, HBU.out⟩, by simp [intOf]; omega⟩
                            rw [HCP.out, if_pos (by simp; exact heq), ← Nat.add_assoc, ← HKK.out]
                            first | rfl | (rw [hwk])
                        · have hi1 : ((i' : Int) < (ln : Int)) = False := by simp; omega
                          have hk2 : keptB last s + ((bx s).take i').countP (fun t => decide (part (S.m (cf.ticketsAt + 3 * t)) 16 16 = j)) = keptB last (s + 1) := by
                            rw [keptB_succ, List.take_of_length_le (by rw [← HLN.out]; omega), moved_count HRE.out HMV.out hsw]
                          rw [hk2]
                          clear hk2
                          have HBU := Go.Lib.hid (HBW.out.trans (HBV.out.mono HBW.out.size))
                          go_wp2
                          refine ⟨⟨s + 1, by go_num, rfl, by omega, HBU.out⟩, by simp [intOf]; omega⟩
                    · have hs1 : ((s : Int) < (cf.workers : Int)) = False := by simp; omega
                      have hse : s = cf.workers := by omega
                      have hkp : keptB last s = 1 := by unfold keptB; rw [if_pos (by have := HMV.out.ll; omega)]
                      rw [hkp]
                      clear hkp
                      have HBZ := Go.Lib.hid (HB7.out.trans (HBW.out.mono HB7.out.size))
                      go_wp2
                      go_ret
                      exact ⟨rfl, HBZ.out⟩
  · rw [decide_eq_false hsm]
    clear HBG HEC
    go_wp2_with fail
    refine (law18_speaks _).mono ?_
    rintro e w3 ⟨rfl, hb1⟩
    have HB9 := Go.Lib.hid (HB.out.trans (hb1.mono HB.out.size))
    clear hb1
    go_wp2
    go_ret
    exact ⟨rfl, HB9.out⟩
end Go.Proofs.YtgemjjpmoejgdaaGreat
