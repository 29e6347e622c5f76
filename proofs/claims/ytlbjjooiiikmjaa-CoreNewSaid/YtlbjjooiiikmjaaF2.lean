/- plan.Fresh, core.New. -/
import Derived.Test.YtlbjjooiiikmjaaF
import Derived.Deep.RegionHeld3
namespace Go.Proofs.Ytlbjjooiiikmjaa
open Go.RowKit
set_option maxRecDepth 100000
set_option linter.unusedVariables false

theorem among_at {base i many apart : Int} (h : 0 ≤ i) (h2 : i < many) (j : Int) (hj : 0 ≤ j) (hb : 0 ≤ base) (ha : 0 ≤ i * apart) : within (among base i many apart) j = base + i * apart + j := by
  rw [among_yes ⟨h, h2⟩]; unfold within; rw [if_neg (by omega)]
theorem node_at (c : Cf) (i : Nat) (h : i < c.nodes) (j : Nat) : c.node i j = (c.nodesAt + 4 * i + j : Nat) := by
  unfold Cf.node
  rw [among_at (by omega) (by omega) _ (by omega) (by omega) (by omega)]; omega
theorem ticket_at (c : Cf) (i : Nat) (h : i < c.tickets) (j : Nat) : c.ticket i j = (c.ticketsAt + 3 * i + j : Nat) := by
  unfold Cf.ticket
  rw [among_at (by omega) (by omega) _ (by omega) (by omega) (by omega)]; omega
theorem nodeLink_at (c : Cf) (i : Nat) (h : i < c.nodes) : c.nodeLink i = (c.nodesAt + 4 * i + 3 : Nat) := node_at c i h 3
theorem state_at (c : Cf) (i : Nat) (h : i < c.nodes) : c.state i = (c.nodesAt + 4 * i : Nat) := node_at c i h 0
theorem ticketLink_at (c : Cf) (i : Nat) (h : i < c.tickets) : c.ticketLink i = (c.ticketsAt + 3 * i + 2 : Nat) := ticket_at c i h 2

/-- The word of a state that was never armed. -/
def freshW (c : Cf) : Nat := stateWord c.first 0 0
theorem stateWord_eq (g t s : Int) : (packed [32, 30, 2] [g, t, s]).1 = stateWord g t s := rfl
def stateM (c : Cf) (m : Nat → Nat) : Nat → Nat → Nat
  | 0 => m
  | k + 1 => upd (stateM c m k) (c.nodesAt + 4 * k) (freshW c)
def chains (c : Cf) : Nat → Nat :=
  chainM (fun i => c.ticketsAt + 3 * i + 2) (upd (chainM (fun i => c.nodesAt + 4 * i + 3) (upd (fun _ => 0) 1 1) (c.nodes - 1)) 2 1) (c.tickets - 1)
/-- What all cells hold at first. -/
def freshM (c : Cf) : Nat → Nat := stateM c (chains c) c.nodes

theorem stateM_succ (c : Cf) (m : Nat → Nat) (k : Nat) : stateM c m (k + 1) = upd (stateM c m k) (c.nodesAt + 4 * k) (freshW c) := rfl
theorem RowAt.state {B : Nat} {w0 W : World} {bx r n : Nat} {c : Cf} {m : Nat → Nat} {k q : Nat} (h : RowAt B w0 bx r n (stateM c m k) W) (hq : c.nodesAt + 4 * k = q) (hn : q < n) :
    RowAt B w0 bx r n (stateM c m (k + 1)) (W.setCell ⟨r, q, none⟩ (.int .u64 ((packed [32, 30, 2] [(c.first : Int), 0, 0]).1 : Nat))) := by
  rw [stateM_succ, hq, stateWord_eq]
  exact h.set (k := q) hn (freshW c)
theorem make_words (n : Nat) (h1 : n ≤ 1048576) (w : World) :
    (Instr.makeSlice 98 (.int .i64 n) (.int .i64 n)).run Try.prog w = .ok (.slice (some ⟨w.heap.size, 0, none⟩) n n) (w.alloc (.cells (madeCells #[.int .u64 0] n) 34)) := by
  have hz : (Try.prog.info? 34).map (fun i => (i.zero, i.size, i.bytes)) = some (some (.int .u64 0), 1, 8) := by kernel_rfl
  cases hi : Try.prog.info? 34 with
  | none => rw [hi] at hz; cases hz
  | some i => ?_
  rw [hi] at hz
  simp at hz
  obtain ⟨z1, z2, z3⟩ := hz
  have := run_make (P := Try.prog) w 98 34 i _ (by kernel_rfl) hi z1 .i64 .i64 n n (by omega) (by omega) (by rw [z3]; omega) (by omega)
  rw [this]
  simp [z2, Value.cells]

theorem RowAt.start {w W0 : World} (n : Nat) (t u : TypeId) (hb : Below w.heap.size w W0) :
    RowAt w.heap.size w (W0.heap.size + 1) W0.heap.size n (fun _ => 0) ((W0.alloc (.cells (madeCells #[.int .u64 0] n) t)).alloc (.cells #[.slice (some ⟨W0.heap.size, 0, none⟩) n n] u)) := by
  have hs := hb.size
  refine ⟨(hb.alloc hs _).alloc (by simp; omega) _, by simp; omega, hs, by simp, ?_, ?_, ?_⟩
  · have := World.cell?_alloc_new (W0.alloc (.cells (madeCells #[.int .u64 0] n) t)) #[.slice (some ⟨W0.heap.size, 0, none⟩) n n] u 0
    rw [World.size_alloc] at this
    exact this
  · intro i hi
    have h := cell_made (w := W0) (z := .int .u64 0) (e := t) hi
    exact below_cell ((Below.refl _ _).alloc (Nat.le_refl _) _) h
  · intro i hi
    have h := cell_made (w := W0) (z := .int .u64 0) (e := t) hi
    exact (((Below.refl _ (W0.alloc (.cells (madeCells #[.int .u64 0] n) t))).alloc (Nat.le_refl _) _).frozen (cell_lt h)).trans frozen_made

set_option maxHeartbeats 8000000 in
theorem plan_fresh (c : Cf) (hok : c.Ok) (p : Nat) (w : World) (hp : PlanAt w p c) :
    Calls Try.prog 43 #[.pointer (some ⟨p, 0, none⟩)] w fun e w' => ∃ a r, e = .returned (.pointer (some ⟨a, 0, none⟩)) ∧ w.heap.size ≤ r ∧ r < a ∧ Below w.heap.size w w' ∧
      w'.cell? ⟨a, 0, none⟩ = some (.slice (some ⟨r, 0, none⟩) c.size c.size) ∧ w'.cell? ⟨a, 1, none⟩ = some (.int .i64 0) ∧ w'.frozen? ⟨a, 1, none⟩ = false ∧
      (∀ i, i < c.size → w'.cell? ⟨r, i, none⟩ = some (.int .u64 (freshM c i : Nat))) ∧ (∀ i, i < c.size → w'.frozen? ⟨r, i, none⟩ = false) := by
  have hsz := hok.size_le
  have hmk := make_words c.size (by omega)
  have HSZ := Go.Lib.hid (plan_Size hok p w hp)
  have HP := Go.Lib.hid hp
  have lp := cell_lt hp.c0
  have ho1 := hok.connsAt_le
  have ho2 := hok.ticketsAt_le
  have ho3 := hok.nodesAt_le
  have hq1 : c.ticketsAt = c.nodesAt + 4 * c.nodes := rfl
  have hq2 : c.connsAt = c.ticketsAt + 3 * c.tickets := rfl
  have hq3 : c.size = c.connsAt + c.conns := rfl
  have hn1 := hok.n1
  have hf2 := hok.f2
  have hn2 := hok.n2
  have ht1 := hok.t1
  have ht2 := hok.t2
  have HG1 : Hid (∀ i, i < c.nodes → c.nodesAt + 4 * i + 3 < c.size) := fun i hi => by omega
  have HG2 : Hid (∀ i, i < c.tickets → c.ticketsAt + 3 * i + 2 < c.size) := fun i hi => by omega
  have HG3 : Hid (∀ i, i < c.nodes → c.nodesAt + 4 * i < c.size) := fun i hi => by omega
  have HL1 : Hid (∀ (i : Nat) (w : World), i < c.nodes → PlanAt w p c → Calls Try.prog 48 #[.pointer (some ⟨p, 0, none⟩), .int .i64 i] w (Qt (.int .i64 ((c.nodesAt + 4 * i + 3 : Nat) : Int)) w)) := fun i w hi hp => by
    have := plan_NodeLink hok p i w hp
    rwa [nodeLink_at c i hi] at this
  have HL2 : Hid (∀ (i : Nat) (w : World), i < c.tickets → PlanAt w p c → Calls Try.prog 52 #[.pointer (some ⟨p, 0, none⟩), .int .i64 i] w (Qt (.int .i64 ((c.ticketsAt + 3 * i + 2 : Nat) : Int)) w)) := fun i w hi hp => by
    have := plan_TicketLink hok p i w hp
    rwa [ticketLink_at c i hi] at this
  have HE1 : Hid (∀ (args : Array Value) (w : World), (callFunc 48 args).run Try.prog w = .ok (.enter 48 args) w) := fun args w => by kernel_rfl
  have HE2 : Hid (∀ (args : Array Value) (w : World), (callFunc 52 args).run Try.prog w = .ok (.enter 52 args) w) := fun args w => by kernel_rfl
  generalize hs : c.size = n at *
  clear hq1 hq2 hq3 ho1 ho2
  have HS := Go.Lib.hid hs
  clear hp hs
  go_enter Try.func43, Try.ntmps43
  go_wp2_with fail
  refine HSZ.out.mono ?_
  intro e w' hq
  obtain ⟨rfl, hb⟩ := hq.below
  clear hq
  go_wp2
  have hrow := RowAt.start n 34 98 hb
  have hbxp : p ≠ w'.heap.size := by have := hb.size; omega
  generalize ((w'.alloc (.cells (madeCells #[.int .u64 0] n) 34)).alloc (.cells #[.slice (some ⟨w'.heap.size, 0, none⟩) n n] 98)) = W1 at *
  generalize w'.heap.size + 1 = bx at *
  generalize hrr : w'.heap.size = r at *
  clear hb hrr
  have hpl := HP.out.mono (hrow.bl.block p lp)
  have k3 := hpl.c3
  have HC3 := Go.Lib.hid (fun (W' : World) (hb : Below W1.heap.size W1 W') => fresh1 c p bx r n _ (fun _ => 0) 1 c.nodes 48 HE1.out HL1.out HG1.out (by omega) hn1 (by omega) (by omega) _ w W' (hpl.mono (hb.block p (cell_lt hpl.c0))) hbxp (hrow.below hb))
  have HROW := Go.Lib.hid hrow
  clear hrow
  have HPL := Go.Lib.hid hpl
  clear hpl
  go_still_tail 10, (by kernel_rfl)
  still_call (plan_Nodes p _)
  repeat still_step
  refine wpStill_nil ?_
  change wpList _ _ _ _ _ (World.drew _)
  go_wp2_with fail
  refine (HC3.out _ ((Below.refl _ _).drew)).mono ?_
  rintro e w2 ⟨rfl, hr2, hp2⟩
  clear HC3 k3 HROW HPL
  have k3 := hp2.c3
  have k4 := hp2.c4
  have HC4 := Go.Lib.hid (fun (W' : World) (hb : Below w2.heap.size w2 W') => fresh1 c p bx r n _ _ 2 c.tickets 52 HE2.out HL2.out HG2.out (by omega) ht1 (by omega) (by omega) _ w W' (hp2.mono (hb.block p (cell_lt hp2.c0))) hbxp (hr2.below hb))
  clear hr2
  have HPL := Go.Lib.hid hp2
  clear hp2
  go_wp2
  go_still_tail 10, (by kernel_rfl)
  still_call (plan_Tickets p _)
  repeat still_step
  refine wpStill_nil ?_
  change wpList _ _ _ _ _ (World.drew _)
  go_wp2_with fail
  refine (HC4.out _ ((Below.refl _ _).drew)).mono ?_
  rintro e w3 ⟨rfl, hr3, hp3⟩
  clear HC4 k3 k4 HPL
  have k3 := hp3.c3
  have HR3 := Go.Lib.hid hr3
  have HP3 := Go.Lib.hid hp3
  clear hr3 hp3
  go_wp2
  go_loopw [5, 39] (fun _ i wr => ∃ k : Nat, k ≤ c.nodes ∧ i = .int .i64 k ∧ RowAt w.heap.size w bx r n (stateM c (chains c) k) wr ∧ PlanAt wr p c) (fun _ i _ => c.nodes - (intOf i).toNat)
  case atStart => exact ⟨0, by omega, rfl, HR3.out, HP3.out⟩
  case round =>
    as_aux_lemma =>
      obtain ⟨k, hk, rfl, hrow, hpl⟩ := hrel
      have HROW := Go.Lib.hid hrow
      have HPL := Go.Lib.hid hpl
      by_cases hlt : k < c.nodes
      · have hgj := HG3.out k hlt
        have e0 := hrow.b0
        have e1 := hrow.c0 _ hgj
        have e2 := hrow.cf _ hgj
        have e6 := hpl.c6
        have HST : Hid (∀ W', Below wr.heap.size wr W' → Calls Try.prog 63 #[.pointer (some ⟨p, 0, none⟩), .int .i64 k] W' (Qt (.int .i64 ((c.nodesAt + 4 * k : Nat) : Int)) W')) := fun W' hb => by
          have := plan_State hok p k W' (HPL.out.mono (hb.block p (cell_lt HPL.out.c0)))
          rwa [state_at c k hlt] at this
        have hbT := Below.refl wr.heap.size wr
        have hne1 : r ≠ bx := fun x => hrow.ne x.symm
        have hne2 : r ≠ p := fun x => hbxp x.symm
        generalize hgq : c.nodesAt + 4 * k = q at *
        have HQ := Go.Lib.hid hgq
        have b1 : (0 : Int) ≤ (q : Int) := by omega
        have b2 : (q : Int) < (n : Int) := by omega
        clear hgq
        clear hrow hpl HR3 HP3 k3
        go_wp2
        go_region_held3 (fun w' => w'.cell? ⟨bx, 0, none⟩ = some (.slice (some ⟨r, 0, none⟩) n n) ∧ w'.cell? ⟨p, 6, none⟩ = some (.int .i64 c.first))
          (first | exact ⟨e0, e6⟩ | (refine ⟨(World.cell?_setCell_other _ _ _ _ ?_).trans e0, (World.cell?_setCell_other _ _ _ _ ?_).trans e6⟩ <;> (intro x; first | exact hne1 (congrArg Addr.block x) | exact hne2 (congrArg Addr.block x))))
          (first
          | (go_at_call 63; refine (HST.out _ (by first | exact hbT | exact hbT.drew)).mono ?_; intro e w2 hq; obtain ⟨rfl, hb0⟩ := hq.below; clear hq; have e0 := below_cell hb0 e0; have e2 := (hb0.frozen (cell_lt e1)).trans e2; have e1 := below_cell hb0 e1; have e6 := below_cell hb0 e6; have hbT : Below wr.heap.size wr w2 := (by first | exact hbT.trans (hb0.mono hbT.size) | exact hbT.drew.trans (hb0.mono hbT.size)); clear hb0)
          | (go_at_call 74; refine (word_State _ _ _ _ (by omega) (by omega) (by omega)).mono ?_; rintro e w2 ⟨rfl, hb0⟩; have e0 := below_cell hb0 e0; have e2 := (hb0.frozen (cell_lt e1)).trans e2; have e1 := below_cell hb0 e1; have e6 := below_cell hb0 e6; have hbT : Below wr.heap.size wr w2 := (by first | exact hbT.trans (hb0.mono hbT.size) | exact hbT.drew.trans (hb0.mono hbT.size)); clear hb0))
        all_goals
          as_aux_lemma =>
          go_wp2
          go_roundw
          case rel =>
            exact ⟨k + 1, by omega, by go_num, (HROW.out.below hbT).state HQ.out (by omega), (HPL.out.mono (hbT.block p (cell_lt HPL.out.c0))).mono (Below.heap_setCell _ _ _ _ hbxp)⟩
          case measure => simp [intOf]; omega
      · as_aux_lemma =>
        have e0 := hrow.b0
        clear hrow hpl
        have s4 : ((k : Int) < c.nodes) = False := by simp; omega
        go_wp2_with fail
        refine (cell_of n r n (freshM c) (by omega) (by omega) _ ?_).mono ?_
        · intro i hi
          have hk' : k = c.nodes := by omega
          have := HROW.out.c0 i hi
          rw [hk'] at this
          exact this
        rintro e w5 ⟨rfl, hof⟩
        have HOF := Go.Lib.hid hof
        clear hof
        go_wp2
        go_ret
        have hbl := HROW.out.bl.trans (HOF.out.bl.mono HROW.out.hB)
        refine ⟨wr.heap.size + 1, wr.heap.size, rfl, HROW.out.hB, by omega, hbl, ?_, HOF.out.a1, HOF.out.af, ?_, ?_⟩
        · exact HOF.out.a0
        · intro i hi
          have := HOF.out.c0 i hi
          rw [if_pos hi] at this
          exact this
        · intro i hi
          exact HOF.out.cf i hi
end Go.Proofs.Ytlbjjooiiikmjaa

