/- plan.Fresh, core.New. -/
import Derived.Test.YtdemhabgaimnmaaGreatDoorJstc
import Derived.Deep.RegionHeld3
import Derived.Deep.RegionLaw
import Derived.Deep.AppendLies
import Derived.StillTail
import Derived.Deep.Quiet
import Derived.Lib.QuietBelow
import Derived.Laws.EntriesVeiled
namespace Go.Proofs.YtdemhabgaimnmaaGreatDoor
open Go.RowKit
set_option maxRecDepth 100000
set_option linter.unusedVariables false

theorem among_at {base i many apart : Int} (h : 0 ≤ i) (h2 : i < many) (j : Int) (hj : 0 ≤ j) (hb : 0 ≤ base) (ha : 0 ≤ i * apart) : within (among base i many apart) j = base + i * apart + j := by
  rw [among_yes ⟨h, h2⟩]; unfold within; rw [if_neg (by omega)]
theorem node_at (c : Cf) (i : Nat) (h : i < c.nodes) (j : Nat) : c.node i j = (c.nodesAt + 4 * i + j : Nat) := by
  unfold Cf.node
  rw [among_at (by omega) (by omega) _ (by omega) (by omega) (by omega)]; omega
theorem ticket_at (c : Cf) (i : Nat) (h : i < c.tickets) (j : Nat) : c.ticket i j = (c.ticketsAt + 3 * i + j : Nat) := by
  unfold Cf.ticket
  rw [among_at (by omega) (by omega) _ (by omega) (by omega) (by omega)]; omega
theorem nodeLink_at (c : Cf) (i : Nat) (h : i < c.nodes) : c.nodeLink i = (c.nodesAt + 4 * i + 3 : Nat) := node_at c i h 3
theorem state_at (c : Cf) (i : Nat) (h : i < c.nodes) : c.state i = (c.nodesAt + 4 * i : Nat) := node_at c i h 0
theorem ticketLink_at (c : Cf) (i : Nat) (h : i < c.tickets) : c.ticketLink i = (c.ticketsAt + 3 * i + 2 : Nat) := ticket_at c i h 2

/-- The word of a state that was never armed. -/
def freshW (c : Cf) : Nat := stateWord c.first 0 0
theorem stateWord_eq (g t s : Int) : (packed [32, 30, 2] [g, t, s]).1 = stateWord g t s := rfl
def stateM (c : Cf) (m : Nat → Nat) : Nat → Nat → Nat
  | 0 => m
  | k + 1 => upd (stateM c m k) (c.nodesAt + 4 * k) (freshW c)
def chains (c : Cf) : Nat → Nat :=
  chainM (fun i => c.ticketsAt + 3 * i + 2) (upd (chainM (fun i => c.nodesAt + 4 * i + 3) (upd (fun _ => 0) 1 1) (c.nodes - 1)) 2 1) (c.tickets - 1)
/-- What all cells hold at first. -/
def freshM (c : Cf) : Nat → Nat := stateM c (chains c) c.nodes

theorem stateM_succ (c : Cf) (m : Nat → Nat) (k : Nat) : stateM c m (k + 1) = upd (stateM c m k) (c.nodesAt + 4 * k) (freshW c) := rfl
theorem RowAt.state {B : Nat} {w0 W : World} {bx r n : Nat} {c : Cf} {m : Nat → Nat} {k q : Nat} (h : RowAt B w0 bx r n (stateM c m k) W) (hq : c.nodesAt + 4 * k = q) (hn : q < n) :
    RowAt B w0 bx r n (stateM c m (k + 1)) (W.setCell ⟨r, q, none⟩ (.int .u64 ((packed [32, 30, 2] [(c.first : Int), 0, 0]).1 : Nat))) := by
  rw [stateM_succ, hq, stateWord_eq]
  exact h.set (k := q) hn (freshW c)
theorem make_words (n : Nat) (h1 : n ≤ 1048576) (w : World) :
    (Instr.makeSlice 140 (.int .i64 n) (.int .i64 n)).run Tryz.prog w = .ok (.slice (some ⟨w.heap.size, 0, none⟩) n n) (w.alloc (.cells (madeCells #[.int .u64 0] n) 141)) := by
  have hz : (Tryz.prog.info? 141).map (fun i => (i.zero, i.size, i.bytes)) = some (some (.int .u64 0), 1, 8) := by kernel_rfl
  cases hi : Tryz.prog.info? 141 with
  | none => rw [hi] at hz; cases hz
  | some i => ?_
  rw [hi] at hz
  simp at hz
  obtain ⟨z1, z2, z3⟩ := hz
  have := run_make (P := Tryz.prog) w 140 141 i _ (by kernel_rfl) hi z1 .i64 .i64 n n (by omega) (by omega) (by rw [z3]; omega) (by omega)
  rw [this]
  simp [z2, Value.cells]

theorem RowAt.start {w W0 : World} (n : Nat) (t u : TypeId) (hb : Below w.heap.size w W0) :
    RowAt w.heap.size w (W0.heap.size + 1) W0.heap.size n (fun _ => 0) ((W0.alloc (.cells (madeCells #[.int .u64 0] n) t)).alloc (.cells #[.slice (some ⟨W0.heap.size, 0, none⟩) n n] u)) := by
  have hs := hb.size
  refine ⟨(hb.alloc hs _).alloc (by simp; omega) _, by simp; omega, hs, by simp, ?_, ?_, ?_⟩
  · have := World.cell?_alloc_new (W0.alloc (.cells (madeCells #[.int .u64 0] n) t)) #[.slice (some ⟨W0.heap.size, 0, none⟩) n n] u 0
    rw [World.size_alloc] at this
    exact this
  · intro i hi
    have h := cell_made (w := W0) (z := .int .u64 0) (e := t) hi
    exact below_cell ((Below.refl _ _).alloc (Nat.le_refl _) _) h
  · intro i hi
    have h := cell_made (w := W0) (z := .int .u64 0) (e := t) hi
    exact (((Below.refl _ (W0.alloc (.cells (madeCells #[.int .u64 0] n) t))).alloc (Nat.le_refl _) _).frozen (cell_lt h)).trans frozen_made

set_option maxHeartbeats 8000000 in
theorem plan_fresh (c : Cf) (hok : c.Ok) (p : Nat) (w : World) (hp : PlanAt w p c) :
    Calls Tryz.prog 63 #[.pointer (some ⟨p, 0, none⟩)] w fun e w' => ∃ a r, e = .returned (.pointer (some ⟨a, 0, none⟩)) ∧ w.heap.size ≤ r ∧ r < a ∧ Below w.heap.size w w' ∧
      w'.cell? ⟨a, 0, none⟩ = some (.slice (some ⟨r, 0, none⟩) c.size c.size) ∧ w'.cell? ⟨a, 1, none⟩ = some (.int .i64 0) ∧ w'.frozen? ⟨a, 1, none⟩ = false ∧
      (∀ i, i < c.size → w'.cell? ⟨r, i, none⟩ = some (.int .u64 (freshM c i : Nat))) ∧ (∀ i, i < c.size → w'.frozen? ⟨r, i, none⟩ = false) := by
  have hsz := hok.size_le
  have hmk := make_words c.size (by omega)
  have HSZ := Go.Lib.hid (plan_Size hok p w hp)
  have HP := Go.Lib.hid hp
  have lp := cell_lt hp.c0
  have ho1 := hok.connsAt_le
  have ho2 := hok.ticketsAt_le
  have ho3 := hok.nodesAt_le
  have hq1 : c.ticketsAt = c.nodesAt + 4 * c.nodes := rfl
  have hq2 : c.connsAt = c.ticketsAt + 3 * c.tickets := rfl
  have hq3 : c.size = c.connsAt + c.conns := rfl
  have hn1 := hok.n1
  have hf2 := hok.f2
  have hn2 := hok.n2
  have ht1 := hok.t1
  have ht2 := hok.t2
  have HG1 : Hid (∀ i, i < c.nodes → c.nodesAt + 4 * i + 3 < c.size) := fun i hi => by omega
  have HG2 : Hid (∀ i, i < c.tickets → c.ticketsAt + 3 * i + 2 < c.size) := fun i hi => by omega
  have HG3 : Hid (∀ i, i < c.nodes → c.nodesAt + 4 * i < c.size) := fun i hi => by omega
  have HL1 : Hid (∀ (i : Nat) (w : World), i < c.nodes → PlanAt w p c → Calls Tryz.prog 77 #[.pointer (some ⟨p, 0, none⟩), .int .i64 i] w (Qt (.int .i64 ((c.nodesAt + 4 * i + 3 : Nat) : Int)) w)) := fun i w hi hp => by
    have := plan_NodeLink hok p i w hp
    rwa [nodeLink_at c i hi] at this
  have HL2 : Hid (∀ (i : Nat) (w : World), i < c.tickets → PlanAt w p c → Calls Tryz.prog 79 #[.pointer (some ⟨p, 0, none⟩), .int .i64 i] w (Qt (.int .i64 ((c.ticketsAt + 3 * i + 2 : Nat) : Int)) w)) := fun i w hi hp => by
    have := plan_TicketLink hok p i w hp
    rwa [ticketLink_at c i hi] at this
  have HE1 : Hid (∀ (args : Array Value) (w : World), (callFunc 77 args).run Tryz.prog w = .ok (.enter 77 args) w) := fun args w => by kernel_rfl
  have HE2 : Hid (∀ (args : Array Value) (w : World), (callFunc 79 args).run Tryz.prog w = .ok (.enter 79 args) w) := fun args w => by kernel_rfl
  generalize hs : c.size = n at *
  clear hq1 hq2 hq3 ho1 ho2
  have HS := Go.Lib.hid hs
  clear hp hs
  go_enter Tryz.func63, Tryz.ntmps63
  go_wp2_with fail
  refine HSZ.out.mono ?_
  intro e w' hq
  obtain ⟨rfl, hb⟩ := hq.below
  clear hq
  go_wp2
  have hrow := RowAt.start n 141 140 hb
  have hbxp : p ≠ w'.heap.size := by have := hb.size; omega
  generalize ((w'.alloc (.cells (madeCells #[.int .u64 0] n) 141)).alloc (.cells #[.slice (some ⟨w'.heap.size, 0, none⟩) n n] 140)) = W1 at *
  generalize w'.heap.size + 1 = bx at *
  generalize hrr : w'.heap.size = r at *
  clear hb hrr
  have hpl := HP.out.mono (hrow.bl.block p lp)
  have k3 := hpl.c3
  have HC3 := Go.Lib.hid (fun (W' : World) (hb : Below W1.heap.size W1 W') => fresh1 c p bx r n _ (fun _ => 0) 1 c.nodes 77 HE1.out HL1.out HG1.out (by omega) hn1 (by omega) (by omega) _ w W' (hpl.mono (hb.block p (cell_lt hpl.c0))) hbxp (hrow.below hb))
  have HROW := Go.Lib.hid hrow
  clear hrow
  have HPL := Go.Lib.hid hpl
  clear hpl
  go_still_tail 10, (by kernel_rfl)
  still_call (plan_Nodes p _)
  repeat still_step
  refine wpStill_nil ?_
  change wpList _ _ _ _ _ (World.drew _)
  go_wp2_with fail
  refine (HC3.out _ ((Below.refl _ _).drew)).mono ?_
  rintro e w2 ⟨rfl, hr2, hp2⟩
  clear HC3 k3 HROW HPL
  have k3 := hp2.c3
  have k4 := hp2.c4
  have HC4 := Go.Lib.hid (fun (W' : World) (hb : Below w2.heap.size w2 W') => fresh1 c p bx r n _ _ 2 c.tickets 79 HE2.out HL2.out HG2.out (by omega) ht1 (by omega) (by omega) _ w W' (hp2.mono (hb.block p (cell_lt hp2.c0))) hbxp (hr2.below hb))
  clear hr2
  have HPL := Go.Lib.hid hp2
  clear hp2
  go_wp2
  go_still_tail 10, (by kernel_rfl)
  still_call (plan_Tickets p _)
  repeat still_step
  refine wpStill_nil ?_
  change wpList _ _ _ _ _ (World.drew _)
  go_wp2_with fail
  refine (HC4.out _ ((Below.refl _ _).drew)).mono ?_
  rintro e w3 ⟨rfl, hr3, hp3⟩
  clear HC4 k3 k4 HPL
  have k3 := hp3.c3
  have HR3 := Go.Lib.hid hr3
  have HP3 := Go.Lib.hid hp3
  clear hr3 hp3
  go_wp2
  go_loopw [5, 39] (fun _ i wr => ∃ k : Nat, k ≤ c.nodes ∧ i = .int .i64 k ∧ RowAt w.heap.size w bx r n (stateM c (chains c) k) wr ∧ PlanAt wr p c) (fun _ i _ => c.nodes - (intOf i).toNat)
  case atStart => exact ⟨0, by omega, rfl, HR3.out, HP3.out⟩
  case round =>
    as_aux_lemma =>
      obtain ⟨k, hk, rfl, hrow, hpl⟩ := hrel
      have HROW := Go.Lib.hid hrow
      have HPL := Go.Lib.hid hpl
      by_cases hlt : k < c.nodes
      · have hgj := HG3.out k hlt
        have e0 := hrow.b0
        have e1 := hrow.c0 _ hgj
        have e2 := hrow.cf _ hgj
        have e6 := hpl.c6
        have HST : Hid (∀ W', Below wr.heap.size wr W' → Calls Tryz.prog 81 #[.pointer (some ⟨p, 0, none⟩), .int .i64 k] W' (Qt (.int .i64 ((c.nodesAt + 4 * k : Nat) : Int)) W')) := fun W' hb => by
          have := plan_State hok p k W' (HPL.out.mono (hb.block p (cell_lt HPL.out.c0)))
          rwa [state_at c k hlt] at this
        have hbT := Below.refl wr.heap.size wr
        have hne1 : r ≠ bx := fun x => hrow.ne x.symm
        have hne2 : r ≠ p := fun x => hbxp x.symm
        generalize hgq : c.nodesAt + 4 * k = q at *
        have HQ := Go.Lib.hid hgq
        have b1 : (0 : Int) ≤ (q : Int) := by omega
        have b2 : (q : Int) < (n : Int) := by omega
        clear hgq
        clear hrow hpl HR3 HP3 k3
        go_wp2
        go_region_held3 (fun w' => w'.cell? ⟨bx, 0, none⟩ = some (.slice (some ⟨r, 0, none⟩) n n) ∧ w'.cell? ⟨p, 6, none⟩ = some (.int .i64 c.first))
          (first | exact ⟨e0, e6⟩ | (refine ⟨(World.cell?_setCell_other _ _ _ _ ?_).trans e0, (World.cell?_setCell_other _ _ _ _ ?_).trans e6⟩ <;> (intro x; first | exact hne1 (congrArg Addr.block x) | exact hne2 (congrArg Addr.block x))))
          (first
          | (go_at_call 81; refine (HST.out _ (by first | exact hbT | exact hbT.drew)).mono ?_; intro e w2 hq; obtain ⟨rfl, hb0⟩ := hq.below; clear hq; have e0 := below_cell hb0 e0; have e2 := (hb0.frozen (cell_lt e1)).trans e2; have e1 := below_cell hb0 e1; have e6 := below_cell hb0 e6; have hbT : Below wr.heap.size wr w2 := (by first | exact hbT.trans (hb0.mono hbT.size) | exact hbT.drew.trans (hb0.mono hbT.size)); clear hb0)
          | (go_at_call 80; refine (word_State _ _ _ _ (by omega) (by omega) (by omega)).mono ?_; rintro e w2 ⟨rfl, hb0⟩; have e0 := below_cell hb0 e0; have e2 := (hb0.frozen (cell_lt e1)).trans e2; have e1 := below_cell hb0 e1; have e6 := below_cell hb0 e6; have hbT : Below wr.heap.size wr w2 := (by first | exact hbT.trans (hb0.mono hbT.size) | exact hbT.drew.trans (hb0.mono hbT.size)); clear hb0))
        all_goals
          as_aux_lemma =>
          go_wp2
          go_roundw
          case rel =>
            exact ⟨k + 1, by omega, by go_num, (HROW.out.below hbT).state HQ.out (by omega), (HPL.out.mono (hbT.block p (cell_lt HPL.out.c0))).mono (Below.heap_setCell _ _ _ _ hbxp)⟩
          case measure => simp [intOf]; omega
      · as_aux_lemma =>
        have e0 := hrow.b0
        clear hrow hpl
        have s4 : ((k : Int) < c.nodes) = False := by simp; omega
        go_wp2_with fail
        refine (cell_of n r n (freshM c) (by omega) (by omega) _ ?_).mono ?_
        · intro i hi
          have hk' : k = c.nodes := by omega
          have := HROW.out.c0 i hi
          rw [hk'] at this
          exact this
        rintro e w5 ⟨rfl, hof⟩
        have HOF := Go.Lib.hid hof
        clear hof
        go_wp2
        go_ret
        have hbl := HROW.out.bl.trans (HOF.out.bl.mono HROW.out.hB)
        refine ⟨wr.heap.size + 1, wr.heap.size, rfl, HROW.out.hB, by omega, hbl, ?_, HOF.out.a1, HOF.out.af, ?_, ?_⟩
        · exact HOF.out.a0
        · intro i hi
          have := HOF.out.c0 i hi
          rw [if_pos hi] at this
          exact this
        · intro i hi
          exact HOF.out.cf i hi
end Go.Proofs.YtdemhabgaimnmaaGreatDoor
/- core.New, of a configuration that may be. -/
namespace Go.Proofs.YtdemhabgaimnmaaGreatDoor
open Go.RowKit
set_option maxRecDepth 100000
set_option linter.unusedVariables false

theorem upd_lt {m : Nat → Nat} {M : Nat} (h : ∀ i, m i < M) (k v : Nat) (hv : v < M) (i : Nat) : upd m k v i < M := by
  unfold upd; split
  · exact hv
  · exact h i
theorem chainM_lt {m : Nat → Nat} {M : Nat} (g : Nat → Nat) (h : ∀ i, m i < M) : ∀ (k : Nat), k + 1 < M → ∀ i, chainM g m k i < M
  | 0, _, i => h i
  | k + 1, hk, i => upd_lt (chainM_lt g h k (by omega)) _ _ (by omega) i
theorem stateWord_lt (g t s : Int) : stateWord g t s < 18446744073709551616 := packed_lt [32, 30, 2] [g, t, s] (by decide) rfl
theorem stateM_lt {m : Nat → Nat} (c : Cf) (h : ∀ i, m i < 18446744073709551616) : ∀ (k : Nat) (i : Nat), stateM c m k i < 18446744073709551616
  | 0, i => h i
  | k + 1, i => upd_lt (stateM_lt c h k) _ _ (stateWord_lt _ _ _) i
theorem freshM_lt {c : Cf} (hok : c.Ok) (i : Nat) : freshM c i < 18446744073709551616 := by
  have := hok.n2; have := hok.n1; have := hok.t1; have := hok.t2
  refine stateM_lt c ?_ _ i
  refine chainM_lt _ ?_ _ (by omega)
  exact fun i => upd_lt (chainM_lt _ (fun i => upd_lt (fun _ => by omega) _ _ (by omega) i) _ (by omega)) _ _ (by omega) i

/-- What there is at first. -/
def S0 (c : Cf) : St := { n := c.size, m := freshM c, cnt := 0, log := [], reg := [] }

/-- There is a new core, and all that was there is as it was. -/
structure Born (c : Cf) (w : World) (E : G) (L : Lab) (w' : World) : Prop where
  cf : E.cf = c
  good : Good E L (S0 c) w'
  bl : Below w.heap.size w w'
  old : ∀ b, b < w.heap.size → L b = 0
  nr : ∀ b, L b < 4
  ek : w.heap.size ≤ E.k

theorem born {c : Cf} (hok : c.Ok) {w w1 w2 : World} {p a r : Nat} (hB : Below w.heap.size w w1) (hpw : w.heap.size ≤ p) (hpl : PlanAt w1 p c) (lp : p < w1.heap.size) (hr1 : w1.heap.size ≤ r) (hr2 : r < a)
    (hb2 : Below w1.heap.size w1 w2) (ha0 : w2.cell? ⟨a, 0, none⟩ = some (.slice (some ⟨r, 0, none⟩) c.size c.size)) (ha1 : w2.cell? ⟨a, 1, none⟩ = some (.int .i64 0)) (haf : w2.frozen? ⟨a, 1, none⟩ = false)
    (hc0 : ∀ i, i < c.size → w2.cell? ⟨r, i, none⟩ = some (.int .u64 (freshM c i : Nat))) (hcf : ∀ i, i < c.size → w2.frozen? ⟨r, i, none⟩ = false) :
    Born c w ⟨w2.heap.size, p, a, r, c⟩ (fun b => if b = w2.heap.size then 1 else if b = a then 2 else if b = r then 3 else 0) (w2.alloc (.cells #[.pointer (some ⟨p, 0, none⟩), .pointer (some ⟨a, 0, none⟩), .slice none 0 0] 131)) := by
  have la := cell_lt ha0
  have hs1 := hB.size
  have hs2 := hb2.size
  have hal : Below w2.heap.size w2 (w2.alloc (.cells #[.pointer (some ⟨p, 0, none⟩), .pointer (some ⟨a, 0, none⟩), .slice none 0 0] 131)) := (Below.refl _ _).alloc (Nat.le_refl _) _
  have hsz := hok.size_le
  dsimp only at la
  refine ⟨rfl, ⟨hok, by simp, by simp, ?_, ?_, ?_, ?_, by simp, ?_, ?_, ?_, ?_, fun s hs => by cases hs⟩, (hB.trans (hb2.mono hs1)).trans (hal.mono (by omega)), ?_, ?_, by show w.heap.size ≤ w2.heap.size; omega⟩
  · exact (hpl.mono (hb2.block p lp)).mono (hal.block p (by omega))
  · refine ⟨below_cell hal ha0, below_cell hal ha1, (hal.frozen la).trans haf, fun i hi => below_cell hal (hc0 i hi), fun i hi => (hal.frozen (cell_lt (hc0 i hi))).trans (hcf i hi), by show a ≠ r; omega, by show c.size ≤ _; omega, freshM_lt hok, by show (0 : Nat) ≤ _; omega⟩
  · refine ⟨by simp, .slice none 0 0, by simp, World.ownsRow_nil _ _ _ _, by intro g hg; cases hg⟩
  · intro b o v hb; cases hb
  · show (if p = w2.heap.size then 1 else if p = a then 2 else if p = r then 3 else 0) = 0
    rw [if_neg (by omega), if_neg (by omega), if_neg (by omega)]
  · show (if a = w2.heap.size then 1 else if a = a then 2 else if a = r then 3 else 0) = 2
    rw [if_neg (by omega), if_pos rfl]
  · show (if r = w2.heap.size then 1 else if r = a then 2 else if r = r then 3 else 0) = 3
    rw [if_neg (by omega), if_neg (by omega), if_pos rfl]
  · intro b hb
    simp at hb
    show (if b = w2.heap.size then 1 else if b = a then 2 else if b = r then 3 else 0) = 0
    rw [if_neg (by omega), if_neg (by omega), if_neg (by omega)]
  · intro b hb
    show (if b = w2.heap.size then 1 else if b = a then 2 else if b = r then 3 else 0) = 0
    rw [if_neg (by omega), if_neg (by omega), if_neg (by omega)]
  · intro b
    show (if b = w2.heap.size then 1 else if b = a then 2 else if b = r then 3 else 0) < 4
    split
    · omega
    · split
      · omega
      · split <;> omega

set_option maxHeartbeats 4000000 in
theorem core_new (c : Cf) (hok : c.Ok) (w : World) :
    Calls Tryz.prog 47 #[.agg c.vals] w fun e w' => ∃ E L, e = .returned (.tuple #[.pointer (some ⟨E.k, 0, none⟩), .int .i64 0]) ∧ Born c w E L w' := by
  have HN := Go.Lib.hid (plan_new c hok)
  have HF := Go.Lib.hid (plan_fresh c hok)
  unfold Cf.vals at HN ⊢
  go_enter Tryz.func47, Tryz.ntmps47
  go_wp2_with fail
  refine (HN.out _).mono ?_
  rintro e w1 ⟨p, rfl, hpl, hb1, hp1⟩
  have HPL := Go.Lib.hid hpl
  have lp := cell_lt hpl.c0
  have hB : Below w.heap.size w w1 := by
    have h0 : Below w.heap.size w (w.alloc (.cells #[.int .i64 c.workers, .int .i64 c.levels, .int .i64 c.bits, .int .i64 c.nodes, .int .i64 c.tickets, .int .i64 c.slack, .int .i64 c.first, .int .i64 c.conns, .int .i64 c.timeout, .int .i64 c.base, .int .i64 c.cap, .int .i64 c.jitter, .int .i64 c.attempts] 29)) := (Below.refl _ _).alloc (Nat.le_refl _) _
    exact h0.trans (hb1.mono (by simp))
  have hpw : w.heap.size ≤ p := by simp at hp1; omega
  clear hpl hb1 hp1
  go_wp2_with fail
  refine (HF.out p w1 HPL.out).mono ?_
  rintro e w2 ⟨a, r, rfl, hr1, hr2, hb2, ha0, ha1, haf, hc0, hcf⟩
  have HA0 := Go.Lib.hid ha0
  have HA1 := Go.Lib.hid ha1
  have HAF := Go.Lib.hid haf
  have HC0 := Go.Lib.hid hc0
  have HCF := Go.Lib.hid hcf
  clear ha0 ha1 haf hc0 hcf
  go_wp2
  go_ret2
  exact ⟨⟨w2.heap.size, p, a, r, c⟩, _, rfl, born hok hB hpw HPL.out lp hr1 hr2 hb2 HA0.out HA1.out HAF.out HC0.out HCF.out⟩
end Go.Proofs.YtdemhabgaimnmaaGreatDoor
/- The history: what is right is noted behind all else. -/
namespace Go.Proofs.YtdemhabgaimnmaaGreatDoor
open Go.RowKit
set_option maxRecDepth 100000
set_option linter.unusedVariables false

theorem own_lt {w : World} {base : Nat} {e : TypeId} {size : Nat} {v : Value} {n : Nat} {xs : List Value} (h : w.ownsRow base e size v n xs) {g : Nat} (hg : v.ownBlock = some g) : g < w.heap.size := by
  rcases h.2 with ⟨rfl, _⟩ | ⟨g', cap, cur, rfl, _, hb, _⟩
  · cases hg
  · have : g' = g := by simpa [Value.ownBlock] using hg
    subst this
    exact (Array.getElem?_eq_some_iff.1 hb).1
theorem own_kept {w w' : World} {base : Nat} {e : TypeId} {size : Nat} {v : Value} {n : Nat} {xs : List Value} (h : w.ownsRow base e size v n xs) (hb : ∀ g, v.ownBlock = some g → w'.heap[g]? = w.heap[g]?) : w'.ownsRow base e size v n xs := by
  refine ⟨h.1, ?_⟩
  rcases h.2 with h0 | ⟨g', cap, cur, rfl, h1, h2, h3⟩
  · exact .inl h0
  · exact .inr ⟨g', cap, cur, rfl, h1, (hb g' rfl).trans h2, h3⟩
/-- An event has been noted. -/
structure Noted (E : G) (L : Lab) (S : St) (w : World) (e : Ev) (L' : Lab) (w' : World) : Prop where
  good : Good E L' { S with log := S.log ++ [e] } w'
  shr : Shr L w L' w'
  blk : ∀ b, b < w.heap.size → L b ≠ 1 → L b ≠ 4 → w'.heap[b]? = w.heap[b]?

theorem noted {E : G} {L : Lab} {S : St} {w W w1 : World} {lv : Value} {ev : Ev} (hg : Good E L S w) (hb : Below w.heap.size w W)
    (hlv : w.cell? ⟨E.k, 2, none⟩ = some lv) (hl : ∀ g, lv.ownBlock = some g → L g = 4) (g cap : Nat)
    (hown : w1.ownsRow 0 85 12 (.slice (some ⟨g, 0, none⟩) (S.log.length + 1) cap) (S.log.length + 1) (S.log.flatMap Ev.cells ++ ev.cells))
    (hgrow : W.grownBy w1 lv.ownBlock) (hat : lv.ownBlock = some g ∨ g = W.heap.size) (hlt : g < w1.heap.size) :
    Noted E L S w ev (fun b => if b = g then 4 else L b) (w1.setCell ⟨E.k, 2, none⟩ (.slice (some ⟨g, 0, none⟩) (S.log.length + 1) cap)) := by
  have lk := cell_lt hlv
  dsimp only at lk
  have hs := hb.size
  have hgs := hgrow.size
  have hrow : ∀ b, L b ≠ 4 → some b ≠ lv.ownBlock := fun b h e => h (hl b e.symm)
  have hgl : ∀ b, b < w.heap.size → L b ≠ 4 → b ≠ g := by
    intro b hb' h4 e
    subst e
    rcases hat with h | h
    · exact h4 (hl _ h)
    · omega
  have hlab : ∀ b, b < w.heap.size → (if b = g then 4 else L b) = L b := by
    intro b hb'
    by_cases h4 : L b = 4
    · rw [h4]; simp
    · rw [if_neg (hgl b hb' h4)]
  have hheap1 : ∀ b, b < w.heap.size → L b ≠ 4 → w1.heap[b]? = w.heap[b]? := fun b hb' h4 =>
    (hgrow.block b (by omega) (hrow b h4)).trans (hb.block b hb')
  have hheap : ∀ b, b < w.heap.size → L b ≠ 1 → L b ≠ 4 → (w1.setCell ⟨E.k, 2, none⟩ (.slice (some ⟨g, 0, none⟩) (S.log.length + 1) cap)).heap[b]? = w.heap[b]? := fun b hb' h1 h4 =>
    (Below.heap_setCell _ _ _ _ (by intro e; subst e; exact h1 hg.lk)).trans (hheap1 b hb' h4)
  have hcell : ∀ o v, o ≠ 2 → w.cell? ⟨E.k, o, none⟩ = some v → (w1.setCell ⟨E.k, 2, none⟩ (.slice (some ⟨g, 0, none⟩) (S.log.length + 1) cap)).cell? ⟨E.k, o, none⟩ = some v := fun o v ho h =>
    (World.cell?_setCell_other _ _ _ _ (by intro x; cases x; exact ho rfl)).trans ((World.cell?_of_block (a := ⟨E.k, o, none⟩) (hheap1 E.k lk (by rw [hg.lk]; omega))).trans h)
  have lp := cell_lt hg.pl.c0
  have la := cell_lt hg.ar.a0
  have lc : E.c < w.heap.size := by
    rcases Nat.lt_or_ge E.c w.heap.size with h | h
    · exact h
    · have := hg.new E.c h; have := hg.lc; omega
  dsimp only at lp la
  have hL1 := hg.lk
  have hLp := hg.lp
  have hLa := hg.la
  have hLc := hg.lc
  refine ⟨⟨hg.ok, hcell 0 _ (by omega) hg.k0, hcell 1 _ (by omega) hg.k1, hg.pl.mono (hheap _ lp (by omega) (by omega)), (have h := hg.ar.below (hheap _ la (by omega) (by omega)) (hheap _ lc (by omega) (by omega)); ⟨h.a0, h.a1, h.af, h.c0, h.cf, h.ne, h.n2, h.m64, h.cnt2⟩), ?_, ?_, ?_, ?_, ?_, ?_, ?_, ?_⟩, ⟨?_, ?_, ?_, ?_, ?_, hlab⟩, hheap⟩
  · refine ⟨?_, .slice (some ⟨g, 0, none⟩) (S.log.length + 1) cap, ?_, ?_, ?_⟩
    · rw [World.frozen?_setCell]
      exact (World.frozen?_of_block (a := ⟨E.k, 2, none⟩) (hheap1 E.k lk (by omega))).trans hg.lg.kf
    · exact World.cell?_setCell_same _ _ _ ((World.cell?_of_block (a := ⟨E.k, 2, none⟩) (hheap1 E.k lk (by omega))).trans hlv)
    · have : (S.log ++ [ev]).flatMap Ev.cells = S.log.flatMap Ev.cells ++ ev.cells := by simp
      show World.ownsRow _ 0 _ 12 _ (S.log ++ [ev]).length ((S.log ++ [ev]).flatMap Ev.cells)
      rw [this, List.length_append]
      refine own_kept hown (fun g' hg' => ?_)
      have : g' = g := by simpa [Value.ownBlock] using hg'.symm
      subst this
      refine Below.heap_setCell _ _ _ _ (fun e => ?_)
      dsimp only at e
      exact hgl E.k lk (by omega) e.symm
    · intro g' hg'
      have : g' = g := by simpa [Value.ownBlock] using hg'.symm
      subst this
      simp
  · intro b o v hv
    obtain ⟨h1, h2, h3⟩ := hg.rg b o v hv
    have lb := cell_lt h1
    dsimp only at lb
    exact ⟨(World.cell?_of_block (a := ⟨b, o, none⟩) (hheap b lb (by omega) (by omega))).trans h1, (World.frozen?_of_block (a := ⟨b, o, none⟩) (hheap b lb (by omega) (by omega))).trans h2, (hlab b lb).trans h3⟩
  · exact (hlab _ lk).trans hL1
  · exact (hlab _ lp).trans hLp
  · exact (hlab _ la).trans hLa
  · exact (hlab _ lc).trans hLc
  · intro b hb'
    rw [World.size_setCell] at hb'
    show (if b = g then 4 else L b) = 0
    rw [if_neg (by omega)]
    exact hg.new b (by omega)
  · intro s hs
    have hlt := (hg.sv s hs).1.lt
    have hlb := (hg.sv s hs).1.lb
    exact ⟨(hg.sv s hs).1.below (hheap _ hlt (by omega) (by omega)) (hlab _ hlt) (fun g' hg6 hlt' => ⟨hheap g' hlt' (by omega) (by omega), hlab g' hlt'⟩), (hg.sv s hs).2⟩
  · exact hgrow.os.trans hb.os
  · exact hgrow.tape.trans hb.tape
  · exact hgrow.output.trans hb.output
  · rw [World.size_setCell]; omega
  · intro b hb' h
    exact hheap b hb' (by omega) (by omega)

set_option maxHeartbeats 4000000 in
theorem log_add {E : G} {L : Lab} {S : St} {w : World} (hg : Good E L S w) (hn : S.log.length ≤ 1099511627775) (kind worker op hn' hgn nn ng time arg user err : Int) (yes : Bool)
    (hR : ∀ w, Calls Tryz.prog 51 #[.agg #[.int .i64 kind, .int .i64 worker, .int .i64 op, .int .i64 hn', .int .i64 hgn, .int .i64 nn, .int .i64 ng, .int .i64 time, .int .i64 arg, .int .i64 user, .bool yes, .int .i64 err]] w fun e w' => e = .returned (.bool true) ∧ Below w.heap.size w w') :
    Calls Tryz.prog 105 #[.pointer (some ⟨E.k, 2, none⟩), .agg #[.int .i64 kind, .int .i64 worker, .int .i64 op, .int .i64 hn', .int .i64 hgn, .int .i64 nn, .int .i64 ng, .int .i64 time, .int .i64 arg, .int .i64 user, .bool yes, .int .i64 err]] w fun e w' => ∃ L', e = .returned (.int .i64 0) ∧
      Noted E L S w ⟨kind, worker, op, hn', hgn, nn, ng, time, arg, user, yes, err⟩ L' w' := by
  have hinfo : (Tryz.prog.info? 85).map (fun i => (i.zero, i.size, i.bytes)) = some (some (.agg #[.int .i64 0, .int .i64 0, .int .i64 0, .int .i64 0, .int .i64 0, .int .i64 0, .int .i64 0, .int .i64 0, .int .i64 0, .int .i64 0, .bool false, .int .i64 0]), 12, 96) := by kernel_rfl
  have hund : Tryz.prog.underlying 82 = some (.slice 85) := by kernel_rfl
  obtain ⟨i0, hi0, hz0, hz1, hz2⟩ := info_parts hinfo
  obtain ⟨lv, hlv, hown, hl⟩ := hg.lg.ex
  have hkf := hg.lg.kf
  have lk := cell_lt hlv
  dsimp only at lk
  have hne : lv.ownBlock ≠ some E.k := fun h => by have := hl _ h; rw [hg.lk] at this; omega
  have HR := Go.Lib.hid hR
  have HG := Go.Lib.hid hg
  have HL := Go.Lib.hid hl
  clear hR hg hl
  go_enter Tryz.func105, Tryz.ntmps105
  go_wp2_with fail
  refine (HR.out _).mono ?_
  rintro e w1 ⟨rfl, hb⟩
  have e0 : w1.cell? ⟨w.heap.size, 0, none⟩ = some (.int .i64 kind) := below_cell hb (by go_simp)
  have e1 : w1.cell? ⟨w.heap.size, 1, none⟩ = some (.int .i64 worker) := below_cell hb (by go_simp)
  have e2 : w1.cell? ⟨w.heap.size, 2, none⟩ = some (.int .i64 op) := below_cell hb (by go_simp)
  have e3 : w1.cell? ⟨w.heap.size, 3, none⟩ = some (.int .i64 hn') := below_cell hb (by go_simp)
  have e4 : w1.cell? ⟨w.heap.size, 4, none⟩ = some (.int .i64 hgn) := below_cell hb (by go_simp)
  have e5 : w1.cell? ⟨w.heap.size, 5, none⟩ = some (.int .i64 nn) := below_cell hb (by go_simp)
  have e6 : w1.cell? ⟨w.heap.size, 6, none⟩ = some (.int .i64 ng) := below_cell hb (by go_simp)
  have e7 : w1.cell? ⟨w.heap.size, 7, none⟩ = some (.int .i64 time) := below_cell hb (by go_simp)
  have e8 : w1.cell? ⟨w.heap.size, 8, none⟩ = some (.int .i64 arg) := below_cell hb (by go_simp)
  have e9 : w1.cell? ⟨w.heap.size, 9, none⟩ = some (.int .i64 user) := below_cell hb (by go_simp)
  have e10 : w1.cell? ⟨w.heap.size, 10, none⟩ = some (.bool yes) := below_cell hb (by go_simp)
  have e11 : w1.cell? ⟨w.heap.size, 11, none⟩ = some (.int .i64 err) := below_cell hb (by go_simp)
  have hB : Below w.heap.size w w1 := ((Below.refl _ _).alloc (Nat.le_refl _) _).trans (hb.mono (by simp))
  have lb := cell_lt e0
  clear hb
  have k2 := below_cell hB hlv
  have kf := (hB.frozen lk).trans hkf
  have lk1 := cell_lt k2
  dsimp only at lk1 lb
  have HOWN := Go.Lib.hid (own_kept hown (fun g hg => hB.block g (own_lt hown hg)))
  have HLV := Go.Lib.hid hlv
  clear hown hlv hkf
  go_wp2
  go_region_law
    ((refine step_append_lies _ (by rfl) _ _ _ (by rfl) 0 85 i0 _ 12 96 hund hi0 hz0 hz1 hz2 rfl (by omega) lv _ _ (by rfl) (by first | exact (HOWN.out.alloc _) | exact (HOWN.out.alloc _).drew | exact (HOWN.out.drew.alloc _))
        ⟨_, 0, none⟩ 1 1 [.int .i64 kind, .int .i64 worker, .int .i64 op, .int .i64 hn', .int .i64 hgn, .int .i64 nn, .int .i64 ng, .int .i64 time, .int .i64 arg, .int .i64 user, .bool yes, .int .i64 err] (by rfl) (by rfl) (World.news_of_block (cs := #[.int .i64 kind, .int .i64 worker, .int .i64 op, .int .i64 hn', .int .i64 hgn, .int .i64 nn, .int .i64 ng, .int .i64 time, .int .i64 arg, .int .i64 user, .bool yes, .int .i64 err]) (t := 85) (fr := (0, 0)) (heap_alloc_new _ _)) (by simp [Value.oneCell'])
        (by omega) (by unfold maxLen; omega) (by omega) (Nat.zero_le _) _ rfl ?_; intro gg cap w2 hown1 hgrow hat hlt; have k3 : w2.cell? ⟨E.k, 2, none⟩ = some lv := (hgrow.cell_far ⟨E.k, 2, none⟩ (by simp; omega) (Ne.symm hne)).trans (by go_simp); have k4 : w2.frozen? ⟨E.k, 2, none⟩ = false := (hgrow.frozen_far ⟨E.k, 2, none⟩ (by simp; omega) (Ne.symm hne)).trans (by go_simp)))
  all_goals
    go_wp2
    go_ret
    refine ⟨_, by simp, noted (ev := ⟨kind, worker, op, hn', hgn, nn, ng, time, arg, user, yes, err⟩) HG.out ?_ HLV.out HL.out gg cap hown1 hgrow hat hlt⟩
    first
      | exact hB.alloc hB.size _
      | exact (hB.alloc hB.size _).drew
      | exact hB.drew.alloc hB.size _
end Go.Proofs.YtdemhabgaimnmaaGreatDoor
/- All cells; the clock; a Tick. -/
namespace Go.Proofs.YtdemhabgaimnmaaGreatDoor
open Go.RowKit
set_option maxRecDepth 100000
set_option linter.unusedVariables false

structure AllAt (w : World) (n : Nat) (m : Nat → Nat) (k : Nat) (W : World) : Prop where
  bl : Below w.heap.size w W
  c0 : ∀ i, i < n → W.cell? ⟨w.heap.size, i, none⟩ = some (.int .u64 (if i < k then m i else 0 : Nat))
  cf : ∀ i, i < n → W.frozen? ⟨w.heap.size, i, none⟩ = false
theorem AllAt.start (w : World) (n : Nat) (m : Nat → Nat) (t : TypeId) : AllAt w n m 0 (w.alloc (.cells (madeCells #[.int .u64 0] n) t)) := by
  refine ⟨(Below.refl _ _).alloc (Nat.le_refl _) _, ?_, ?_⟩
  · intro i hi
    have h := cell_made (w := w) (z := .int .u64 0) (e := t) hi
    simp only [Nat.not_lt_zero, if_false]
    exact h
  · intro i hi
    exact frozen_made
theorem AllAt.step {w W : World} {n : Nat} {m : Nat → Nat} {k : Nat} (h : AllAt w n m k W) (hk : k < n) : AllAt w n m (k + 1) (W.setCell ⟨w.heap.size, k, none⟩ (.int .u64 (m k))) := by
  refine ⟨h.bl.setCell (Nat.le_refl _) _, ?_, ?_⟩
  · intro i hi
    by_cases e : i = k
    · subst e
      refine (World.cell?_setCell_same _ _ _ (h.c0 i hi)).trans ?_
      simp
    · refine (World.cell?_setCell_other _ _ _ _ (by intro x; cases x; exact e rfl)).trans ?_
      rw [h.c0 i hi]
      have : (i < k + 1) = (i < k) := by apply propext; omega
      simp only [this]
  · intro i hi; rw [World.frozen?_setCell]; exact h.cf i hi

set_option maxHeartbeats 1000000 in
theorem arena_all {a c : Nat} {S : St} {w : World} (hA : ArenaAt w a c S) :
    Calls Tryz.prog 128 #[.pointer (some ⟨a, 0, none⟩)] w fun e w' => e = .returned (.slice (some ⟨w.heap.size, 0, none⟩) S.n S.n) ∧ AllAt w S.n S.m S.n w' := by
  have hn := hA.n2
  have hmk := make_words S.n hn
  have a0 := hA.a0
  have la := cell_lt a0
  have HA := Go.Lib.hid hA
  clear hA
  go_enter Tryz.func128, Tryz.ntmps128
  go_wp2
  have HS := AllAt.start w S.n S.m 141
  generalize w.alloc (.cells (madeCells #[.int .u64 0] S.n) 141) = W0 at *
  go_loopw [4, 16] (fun _ i wr => ∃ k : Nat, k ≤ S.n ∧ i = .int .i64 k ∧ AllAt w S.n S.m k wr) (fun _ i _ => S.n - (intOf i).toNat)
  case atStart => exact ⟨0, Nat.zero_le _, rfl, HS⟩
  case round =>
    obtain ⟨k, hk, rfl, hat⟩ := hrel
    have HAT := Go.Lib.hid hat
    have e0 := bcell hat.bl a0 la
    by_cases hlt : k < S.n
    · have e1 := bcell hat.bl (HA.out.c0 k hlt) (cell_lt (HA.out.c0 k hlt))
      have e2 := hat.c0 k hlt
      have e3 := hat.cf k hlt
      have b1 : (0 : Int) ≤ (k : Int) := by omega
      have b2 : (k : Int) < (S.n : Int) := by omega
      clear hat HS
      go_wp2_with (go_at_call 175; refine (u64_load _ _ _ _ e1).mono ?_; rintro e w' ⟨rfl, rfl⟩)
      go_roundw
      case rel => exact ⟨k + 1, by omega, by go_num, HAT.out.step hlt⟩
      case measure => simp [intOf]; omega
    · clear hat HS
      have s4 : ((k : Int) < S.n) = False := by simp; omega
      go_wp2
      go_ret
      have hk' : k = S.n := by omega
      subst hk'
      exact ⟨rfl, HAT.out⟩
set_option maxHeartbeats 1000000 in
theorem core_peek {E : G} {L : Lab} {S : St} {w : World} (hg : Good E L S w) (i : Nat) (hi : i < S.n) :
    Calls Tryz.prog 102 #[.pointer (some ⟨E.k, 0, none⟩), .int .i64 i] w fun e w' => e = .returned (.int .u64 (S.m i : Nat)) ∧ Below w.heap.size w w' := by
  have k1 := hg.k1
  have hn := hg.ar.n2
  have HA := Go.Lib.hid (arena_all hg.ar)
  clear hg
  have b1 : (0 : Int) ≤ (i : Int) := by omega
  have b2 : (i : Int) < (S.n : Int) := by omega
  go_enter Tryz.func102, Tryz.ntmps102
  go_wp2_with fail
  refine HA.out.mono ?_
  rintro e w' ⟨rfl, hat⟩
  have e1 := hat.c0 i hi
  rw [if_pos hi] at e1
  have hb := hat.bl
  clear hat HA
  go_wp2
  go_ret
  exact ⟨rfl, hb⟩
set_option maxHeartbeats 1000000 in
theorem core_clock {E : G} {L : Lab} {S : St} {w : World} (hg : Good E L S w) (h0 : 0 < S.n) (hlt : S.m 0 < 9223372036854775808) :
    Calls Tryz.prog 83 #[.pointer (some ⟨E.k, 0, none⟩)] w fun e w' => e = .returned (.int .i64 (S.m 0 : Nat)) ∧ Below w.heap.size w w' := by
  have k0 := hg.k0
  have HG := Go.Lib.hid hg
  have HP := Go.Lib.hid (core_peek hg 0 h0)
  clear hg
  go_enter Tryz.func83, Tryz.ntmps83
  go_wp2_with (first
    | (go_at_call 85; refine (plan_Clock _ _).mono ?_; rintro e w' ⟨rfl, rfl⟩)
    | fail)
  have hwr : IntKind.i64.wrap (S.m 0 : Int) = (S.m 0 : Nat) := IntWalk.i64_in _ (by omega)
  generalize hx : S.m 0 = x at *
  replace hx := Go.Lib.hid hx
  refine HP.out.mono ?_
  rintro e w2 ⟨rfl, hb⟩
  clear HP HG
  go_wp2
  go_ret
  exact ⟨by rw [hx.out]; first | rfl | simp [hwr], hb⟩
set_option maxHeartbeats 400000 in
theorem u64_add1 (b o : Nat) (u : Int) (w : World) (h : w.cell? ⟨b, o, none⟩ = some (.int .u64 u)) (hf : w.frozen? ⟨b, o, none⟩ = false) (h0 : 0 ≤ u) (h1 : u < 9000000000000000000) :
    Calls Tryz.prog 104 #[.pointer (some ⟨b, o, none⟩), .int .u64 1] w fun e w' => e = .returned (.int .u64 (u + 1)) ∧ w' = w.setCell ⟨b, o, none⟩ (.int .u64 (u + 1)) := by
  have hl := run_call_add (P := Tryz.prog) Tryz.func130 (by kernel_rfl) (by kernel_rfl) (by kernel_rfl) .u64 (by kernel_rfl) (y := 1) (s := u + 1) h hf (by simp [Op.intArith, go_sem]; rw [IntWalk.u64_in _ (by omega)])
  go_enter Tryz.func104, Tryz.ntmps104
  go_wp2
  go_ret
  exact ⟨rfl, rfl⟩
set_option maxHeartbeats 1000000 in
theorem arena_add1 {E : G} {L : Lab} {S : St} {w : World} (h : Good E L S w) (n : Nat) (hn : n < S.n) (hm : S.m n < 4611686018427387904) (hc : S.cnt + 1 ≤ 4611686018427387904) :
    Calls Tryz.prog 84 #[.pointer (some ⟨E.a, 0, none⟩), .int .i64 n, .int .u64 1] w fun e w' => e = .returned (.int .u64 (S.m n : Nat)) ∧ Good E L { S with cnt := S.cnt + 1, m := fun j => if j = n then S.m n + 1 else S.m j } w' ∧ Shr L w L w' := by
  have hlc := h.lc
  have hsub : IntKind.u64.wrap ((S.m n : Int) + 1 - 1) = (S.m n : Nat) := by rw [IntWalk.u64_in _ (by omega)]; omega
  have HW := Go.Lib.hid hsub
  clear hsub
  go_enter Tryz.func84, Tryz.ntmps84
  go_wp2_with fail
  refine (at_yes h n hn hc).mono ?_
  rintro e w' ⟨rfl, hg, hs⟩
  have hcell := hg.ar.c0 n hn
  have hfr := hg.ar.cf n hn
  have hp := hg.poke (v := S.m n + 1) hn (by omega)
  have HP := Go.Lib.hid hp
  have HS := Go.Lib.hid hs
  clear hp hs h
  dsimp only at hcell
  generalize hx : S.m n = x at *
  replace hx := Go.Lib.hid hx
  have e1 : (x : Int) < 9000000000000000000 := by omega
  go_wp2_with (go_at_call 104; refine (u64_add1 _ _ _ _ hcell hfr (by omega) e1).mono ?_; rintro e w' ⟨rfl, rfl⟩)
  go_ret
  refine ⟨by rw [hx.out]; first | rfl | (simp; done) | (have := HW.out; simpa using this), ?_, HS.out.trans (Shr.set _ (by show 1 ≤ L E.c; omega) (by show L E.c < 8; omega))⟩
  have hp := HP.out
  rw [show ((x + 1 : Nat) : Int) = (x : Int) + 1 from by omega] at hp
  rw [hx.out]
  exact hp
theorem Noted.of_below {E : G} {L L' : Lab} {S : St} {w W w' : World} {e : Ev} (h : Noted E L S W e L' w') (hb : Below w.heap.size w W) : Noted E L S w e L' w' :=
  ⟨h.good, (Shr.of_below hb L).trans h.shr, fun b hb' h1 h4 => (h.blk b (Nat.lt_of_lt_of_le hb' hb.size) h1 h4).trans (hb.block b hb')⟩
set_option maxHeartbeats 4000000 in
theorem core_note_tick {E : G} {L : Lab} {S : St} {w : World} (hg : Good E L S w) (hn : S.log.length ≤ 1099511627775) (T : Int) (hT : 0 ≤ T) :
    Calls Tryz.prog 86 #[.pointer (some ⟨E.k, 0, none⟩), .agg #[.int .i64 1, .int .i64 0, .int .i64 0, .int .i64 0, .int .i64 0, .int .i64 0, .int .i64 0, .int .i64 T, .int .i64 0, .int .i64 0, .bool false, .int .i64 0]] w fun e w' => ∃ L', e = .returned (.int .i64 0) ∧
      Noted E L S w ⟨1, 0, 0, 0, 0, 0, 0, T, 0, 0, false, 0⟩ L' w' := by
  have k0 := hg.k0
  have lk := cell_lt k0
  have HG := Go.Lib.hid hg
  have HR := Go.Lib.hid (fun w => tick_right T hT w)
  clear hg
  go_enter Tryz.func86, Tryz.ntmps86
  go_wp2
  have e0 : (w.alloc (.cells #[.int .i64 1, .int .i64 0, .int .i64 0, .int .i64 0, .int .i64 0, .int .i64 0, .int .i64 0, .int .i64 T, .int .i64 0, .int .i64 0, .bool false, .int .i64 0] 85)).cell? ⟨w.heap.size, 0, none⟩ = some (.int .i64 1) := by go_simp
  have e1 : (w.alloc (.cells #[.int .i64 1, .int .i64 0, .int .i64 0, .int .i64 0, .int .i64 0, .int .i64 0, .int .i64 0, .int .i64 T, .int .i64 0, .int .i64 0, .bool false, .int .i64 0] 85)).cell? ⟨w.heap.size, 1, none⟩ = some (.int .i64 0) := by go_simp
  have e2 : (w.alloc (.cells #[.int .i64 1, .int .i64 0, .int .i64 0, .int .i64 0, .int .i64 0, .int .i64 0, .int .i64 0, .int .i64 T, .int .i64 0, .int .i64 0, .bool false, .int .i64 0] 85)).cell? ⟨w.heap.size, 2, none⟩ = some (.int .i64 0) := by go_simp
  have e3 : (w.alloc (.cells #[.int .i64 1, .int .i64 0, .int .i64 0, .int .i64 0, .int .i64 0, .int .i64 0, .int .i64 0, .int .i64 T, .int .i64 0, .int .i64 0, .bool false, .int .i64 0] 85)).cell? ⟨w.heap.size, 3, none⟩ = some (.int .i64 0) := by go_simp
  have e4 : (w.alloc (.cells #[.int .i64 1, .int .i64 0, .int .i64 0, .int .i64 0, .int .i64 0, .int .i64 0, .int .i64 0, .int .i64 T, .int .i64 0, .int .i64 0, .bool false, .int .i64 0] 85)).cell? ⟨w.heap.size, 4, none⟩ = some (.int .i64 0) := by go_simp
  have e5 : (w.alloc (.cells #[.int .i64 1, .int .i64 0, .int .i64 0, .int .i64 0, .int .i64 0, .int .i64 0, .int .i64 0, .int .i64 T, .int .i64 0, .int .i64 0, .bool false, .int .i64 0] 85)).cell? ⟨w.heap.size, 5, none⟩ = some (.int .i64 0) := by go_simp
  have e6 : (w.alloc (.cells #[.int .i64 1, .int .i64 0, .int .i64 0, .int .i64 0, .int .i64 0, .int .i64 0, .int .i64 0, .int .i64 T, .int .i64 0, .int .i64 0, .bool false, .int .i64 0] 85)).cell? ⟨w.heap.size, 6, none⟩ = some (.int .i64 0) := by go_simp
  have e7 : (w.alloc (.cells #[.int .i64 1, .int .i64 0, .int .i64 0, .int .i64 0, .int .i64 0, .int .i64 0, .int .i64 0, .int .i64 T, .int .i64 0, .int .i64 0, .bool false, .int .i64 0] 85)).cell? ⟨w.heap.size, 7, none⟩ = some (.int .i64 T) := by go_simp
  have e8 : (w.alloc (.cells #[.int .i64 1, .int .i64 0, .int .i64 0, .int .i64 0, .int .i64 0, .int .i64 0, .int .i64 0, .int .i64 T, .int .i64 0, .int .i64 0, .bool false, .int .i64 0] 85)).cell? ⟨w.heap.size, 8, none⟩ = some (.int .i64 0) := by go_simp
  have e9 : (w.alloc (.cells #[.int .i64 1, .int .i64 0, .int .i64 0, .int .i64 0, .int .i64 0, .int .i64 0, .int .i64 0, .int .i64 T, .int .i64 0, .int .i64 0, .bool false, .int .i64 0] 85)).cell? ⟨w.heap.size, 9, none⟩ = some (.int .i64 0) := by go_simp
  have e10 : (w.alloc (.cells #[.int .i64 1, .int .i64 0, .int .i64 0, .int .i64 0, .int .i64 0, .int .i64 0, .int .i64 0, .int .i64 T, .int .i64 0, .int .i64 0, .bool false, .int .i64 0] 85)).cell? ⟨w.heap.size, 10, none⟩ = some (.bool false) := by go_simp
  have e11 : (w.alloc (.cells #[.int .i64 1, .int .i64 0, .int .i64 0, .int .i64 0, .int .i64 0, .int .i64 0, .int .i64 0, .int .i64 T, .int .i64 0, .int .i64 0, .bool false, .int .i64 0] 85)).cell? ⟨w.heap.size, 11, none⟩ = some (.int .i64 0) := by go_simp
  have hb : Below w.heap.size w (w.alloc (.cells #[.int .i64 1, .int .i64 0, .int .i64 0, .int .i64 0, .int .i64 0, .int .i64 0, .int .i64 0, .int .i64 T, .int .i64 0, .int .i64 0, .bool false, .int .i64 0] 85)) := (Below.refl _ _).alloc (Nat.le_refl _) _
  generalize (w.alloc (.cells #[.int .i64 1, .int .i64 0, .int .i64 0, .int .i64 0, .int .i64 0, .int .i64 0, .int .i64 0, .int .i64 T, .int .i64 0, .int .i64 0, .bool false, .int .i64 0] 85)) = W at *
  go_still_tail 4, (by kernel_rfl)
  change wpList _ _ _ _ _ (World.drew _)
  replace hb := hb.drew
  generalize World.drew W = W2 at *
  go_wp2_with fail
  refine (log_add (HG.out.below hb) hn 1 0 0 0 0 0 0 T 0 0 0 false HR.out).mono ?_
  rintro e w2 ⟨L', rfl, hno⟩
  have HNO := Go.Lib.hid (hno.of_below hb)
  clear hno
  go_wp2
  go_ret
  exact ⟨L', rfl, HNO.out⟩
def tickEv (T : Nat) : Ev := ⟨1, 0, 0, 0, 0, 0, 0, T, 0, 0, false, 0⟩
def St.tick (S : St) : St := { S with cnt := S.cnt + 1, m := fun j => if j = 0 then S.m 0 + 1 else S.m j, log := S.log ++ [tickEv (S.m 0 + 1)] }
set_option maxHeartbeats 2000000 in
theorem core_tick {E : G} {L : Lab} {S : St} {w : World} (hg : Good E L S w) (h0 : 0 < S.n) (hlt : S.m 0 < 1073741823) (hc : S.cnt + 1 ≤ 4611686018427387904) (hn : S.log.length ≤ 1099511627775) :
    Calls Tryz.prog 65 #[.pointer (some ⟨E.k, 0, none⟩)] w fun e w' => ∃ L', e = .returned (.bool true) ∧ Good E L' S.tick w' ∧ Shr L w L' w' := by
  have HC := Go.Lib.hid (core_clock hg h0 (by omega))
  have HG := Go.Lib.hid hg
  clear hg
  go_enter Tryz.func65, Tryz.ntmps65
  go_wp2_with fail
  refine HC.out.mono ?_
  rintro e w1 ⟨rfl, hb⟩
  have hg := HG.out.below hb
  clear HC
  have k0 := hg.k0
  have k1 := hg.k1
  have HA := Go.Lib.hid (fun q => arena_add1 (hg.below (below_drewN q)) 0 h0 (by omega) hc)
  have HB := Go.Lib.hid (Shr.of_below hb L)
  clear hg hb
  generalize hx : S.m 0 = x at *
  replace hx := Go.Lib.hid hx
  have hw1 : IntKind.i64.wrap ((x : Int) + 1) = (x : Int) + 1 := IntWalk.i64_in _ (by omega)
  have hI : ((x : Int) < 1073741823) := by omega
  have hD : decide ((1073741823 : Int) ≤ (x : Int)) = false := by simp; omega
  have hlt' := Go.Lib.hid hlt
  have hn' := Go.Lib.hid hn
  have hc' := Go.Lib.hid hc
  clear hlt hn hc
  go_wp2
  go_still_tail 9, (by kernel_rfl)
  still_call (plan_Clock _ _)
  repeat still_step
  refine wpStill_nil ?_
  change wpList _ _ _ _ _ (World.drew _)
  go_wp2_with fail
  refine (HA.out 1).mono ?_
  rintro e w2 ⟨rfl, hg2, hs2⟩
  have HN := Go.Lib.hid (core_note_tick hg2 hn'.out ((x : Int) + 1) (by omega))
  have HS2 := Go.Lib.hid hs2
  clear hg2 hs2 HA
  go_wp2_with fail
  refine HN.out.mono ?_
  rintro e w3 ⟨L', rfl, hno⟩
  have HNO := Go.Lib.hid hno
  clear hno HN
  go_wp2
  go_ret
  refine ⟨L', by first | rfl | simp, ?_, ((HB.out.trans (Shr.of_below (below_drewN 1) L)).trans HS2.out).trans HNO.out.shr⟩
  have e : tickEv (x + 1) = ⟨1, 0, 0, 0, 0, 0, 0, (x : Int) + 1, 0, 0, false, 0⟩ := rfl
  unfold St.tick
  rw [hx.out, e]
  have h := HNO.out.good
  first
    | exact h
    | (rw [hx.out] at h; exact h)
end Go.Proofs.YtdemhabgaimnmaaGreatDoor
/- A region that draws its order: all but the last operations, in one forced order, are quiet in a class of worlds. -/
namespace Go.Proofs.YtdemhabgaimnmaaGreatDoor
open Go Go.RowKit Go.Sort
set_option linter.unusedVariables false

section
variable {P : Program} {md : Region.Mode} {ops : Array Oper} {C : World → Prop}

def wpAnyLQ (P : Program) (md : Region.Mode) (ops : Array Oper) (C : World → Prop) (n : Nat) (L : Array Bool → Act → Prop) : Nat → Array Bool → Act → Prop
  | 0, listed, a => L listed a
  | f + 1, listed, a =>
    Region.ready md ops listed ≠ [] ∧ ∀ i ∈ Region.ready md ops listed, i < n ∧ qOp P ops C i (wpAnyLQ P md ops C n L f (listed.setIfInBounds i true)) a

theorem wpAny_of_headQ {n g : Nat} {L : Array Bool → Act → Prop} {Q' : Exit → Act → World → Prop} (hL : ∀ listed a w, C w → L listed a → wpAny P md ops Q' g listed a w) :
    ∀ (f : Nat) (listed : Array Bool) (a : Act) (w : World), C w → wpAnyLQ P md ops C n L f listed a → wpAny P md ops Q' (f + g) listed a w
  | 0, listed, a, w, hw, h => by rw [Nat.zero_add]; exact hL _ _ _ hw h
  | f + 1, listed, a, w, hw, h => by
    rw [show f + 1 + g = (f + g) + 1 by omega]
    exact ⟨fun h0 => absurd h0 h.1, fun i hi => wpOp_of_qOp hw (fun a' w' hw' h' => wpAny_of_headQ hL f _ a' w' hw' h') (h.2 i hi).2⟩

theorem wpAnyLQ_first {n i : Nat} {oi : Oper} {v : Value} {L : Array Bool → Act → Prop} (hi : ops[i]? = some oi) (hsel : ∀ (j : Nat) (o : Oper) cs b, ops[j]? = some o → o.op ≠ .select cs b)
    (hs : Region.sinkB md ops n = true) (hc : Region.chainB md ops n = true) (hn : n < ops.size) (hin : i < n)
    (hdone : ∀ listed a, L listed a → ∀ j ∈ Region.ready md ops listed, n ≤ j) :
    ∀ (f : Nat) (listed : Array Bool) (a : Act), HeadInv md ops n listed →
      (∀ j oj, ops[j]? = some oj → j ≠ i → listed.getD j true = false → (∀ e ∈ oj.after, Region.binds md e = true → e.on ≠ i) → oi.apart ops oj = true) →
      i ∈ Region.ready md ops listed → YieldsIn P ops C oi v a →
      wpAnyLQ P md ops C n L f (listed.setIfInBounds i true) (a.put oi.dst v) → wpAnyLQ P md ops C n L (f + 1) listed a := by
  intro f
  induction f with
  | zero =>
    intro listed a inv _ hr hy H
    have hun := (mem_ready.1 hr).1
    refine ⟨fun h => (by rw [h] at hr; cases hr), fun j hj => ?_⟩
    have hjn : j < n := by
      rcases Nat.lt_or_ge j n with h | h
      · exact h
      · exact absurd hj (tail_waits hs hc hn inv _ i rfl hin hun j h)
    refine ⟨hjn, ?_⟩
    by_cases hji : j = i
    · subst hji; exact hy.qOp hi H
    · have := hdone _ _ H j (ready_mono hj hji)
      omega
  | succ f ih =>
    intro listed a inv hfree hr hy H
    have hun := (mem_ready.1 hr).1
    refine ⟨fun h => (by rw [h] at hr; cases hr), fun j hj => ?_⟩
    have hjn : j < n := by
      rcases Nat.lt_or_ge j n with h | h
      · exact h
      · exact absurd hj (tail_waits hs hc hn inv _ i rfl hin hun j h)
    refine ⟨hjn, ?_⟩
    by_cases hji : j = i
    · subst hji; exact hy.qOp hi H
    · have h1 := (H.2 j (ready_mono hj hji)).2
      obtain ⟨hjun, oj, hoj, hall⟩ := mem_ready.1 hj
      have hnot : ∀ e ∈ oj.after, Region.binds md e = true → e.on ≠ i := fun e he hb heq => by
        have h1 := hall e he hb
        rw [heq, getD_both hun] at h1
        cases h1
      have h2 := qOp_put hoj (hfree j oj hoj hji hjun hnot) (fun cs b => hsel i oi cs b hi) (fun cs b => hsel j oj cs b hoj) hy h1
      have hfree' : ∀ k ok, ops[k]? = some ok → k ≠ i → (listed.setIfInBounds j true).getD k true = false →
          (∀ e ∈ ok.after, Region.binds md e = true → e.on ≠ i) → oi.apart ops ok = true := fun k ok hk hki hun hno => by
        refine hfree k ok hk hki ?_ hno
        by_cases hjk : j = k
        · subst hjk; exact hjun
        · rw [getD_set_ne true hjk] at hun; exact hun
      refine qOp_mono (fun a' h3 => ih (listed.setIfInBounds j true) a' (inv.set hj hjn) hfree' (ready_mono hr (Ne.symm hji)) h3.1 ?_) h2
      rw [Array.setIfInBounds_comm _ _ hji]
      exact h3.2

theorem wpAnyLQ_lex {n g : Nat} {Lq : Act → Prop} (hsel : Region.noSelect ops = true) (hs : Region.sinkB md ops n = true) (hc : Region.chainB md ops n = true) (hn : n < ops.size) :
    ∀ (l : List Oper) (k : Nat) (listed : Array Bool) (a : Act), (∀ j, j < l.length → l[j]? = ops[k + j]?) → k + l.length = n → HeadInv md ops n listed →
    Region.lexHead md ops g l.length k listed = true → wpQuiet P ops C Lq l a →
    wpAnyLQ P md ops C n (fun listed' a' => Region.seqB md ops g n listed' = true ∧ Lq a') l.length listed a
  | [], k, listed, a, _, hk, _, hB, h => by
    have : k = n := by simpa using hk
    subst this
    exact ⟨by simpa [Region.lexHead] using hB, h⟩
  | o :: l, k, listed, a, hl, hk, inv, hB, h => by
    have h0 : ops[k]? = some o := by simpa using (hl 0 (by simp)).symm
    simp only [List.length_cons, Region.lexHead, Bool.and_eq_true] at hB
    obtain ⟨⟨hr, hf⟩, hB'⟩ := hB
    have hkn : k < n := by simp only [List.length_cons] at hk; omega
    have hr' : k ∈ Region.ready md ops listed := by simpa using hr
    have hst : qOp P ops C k (wpQuiet P ops C Lq l) a := by unfold qOp; simp only [h0]; exact h
    obtain ⟨v, hy, hK⟩ := yieldsIn_of_qOp h0 hst
    exact wpAnyLQ_first h0 (Region.noSelect_spec hsel) hs hc hn hkn (fun listed' a' hL => seqB_ready hL.1) l.length listed a inv (Region.free_spec h0 hf) hr' hy
      (wpAnyLQ_lex hsel hs hc hn l (k + 1) _ _ (fun j hj => by have := hl (j + 1) (by simp; omega); simpa [Nat.add_assoc, Nat.add_comm 1 j] using this) (by simp only [List.length_cons] at hk; omega) (inv.set hr' hkn) hB' hK)

theorem wp_region_quiet_tail {id : Nat} {Q : Exit → Act → World → Prop} {a : Act} {w : World} {l : List Oper} (n : Nat) (hm : P.follows .mixedOrders = true) (hB : Region.lexTailB .any l.toArray n = true) (hC : C { w with drawn := w.drawn + 1 })
    (h : wpQuiet P l.toArray C (fun a' => ∀ w', C w' → wpList P l.toArray Q (l.drop n) a' w') (l.take n) a) : (Code.region id l.toArray true).wp P Q a w := by
  simp only [Region.lexTailB, Bool.and_eq_true, decide_eq_true_eq] at hB
  obtain ⟨⟨⟨⟨hsel, hn⟩, hs⟩, hc⟩, hlex⟩ := hB
  have hn' : n < l.length := by simpa using hn
  have htl : (l.take n).length = n := by simp; omega
  have hdl : (l.drop n).length = l.toArray.size - n := by simp
  have inv0 : HeadInv .any l.toArray n (Array.replicate l.toArray.size false) :=
    ⟨by simp, fun j oj _ hl => (by rw [getD_replicate_false] at hl; cases hl), fun t _ ht => getD_in (by simpa using ht) (getD_replicate_false _ _)⟩
  have H := wpAnyLQ_lex (md := .any) (g := l.toArray.size - n) hsel hs hc hn (l.take n) 0 _ a (fun j hj => by
    have hj' : j < n := by rw [htl] at hj; exact hj
    simp [hj']) (by simpa using htl) inv0 (by rw [htl]; exact hlex) h
  refine wp_region_any hm ?_
  have := wpAny_of_headQ (C := C) (Q' := Q) (g := l.toArray.size - n) (fun listed a' w' hw' hL => by
    have := wpAny_of_seq (md := .any) (Q' := Q) (l.drop n) n listed a' w' (fun j => by simp [List.getElem?_drop]) (by rw [hdl]; exact hL.1) (hL.2 w' hw')
    rwa [hdl] at this) _ _ _ _ hC H
  rw [htl, show n + (l.toArray.size - n) = l.toArray.size by omega] at this
  exact this

/-- At the class of what is w but for draws and new blocks. -/
theorem wp_region_below_tail {id : Nat} {Q : Exit → Act → World → Prop} {a : Act} {w : World} {l : List Oper} (n : Nat) (hm : P.follows .mixedOrders = true) (hB : Region.lexTailB .any l.toArray n = true)
    (h : wpQuiet P l.toArray (fun w' => ∃ p : Regrown, w' = grow (redrawn w p.d) p.os) (fun a' => ∀ w', (∃ p : Regrown, w' = grow (redrawn w p.d) p.os) → wpList P l.toArray Q (l.drop n) a' w') (l.take n) a) : (Code.region id l.toArray true).wp P Q a w :=
  wp_region_quiet_tail n hm hB ⟨⟨w.drawn + 1, #[]⟩, by rw [grow_empty]; rfl⟩ h
end
end Go.Proofs.YtdemhabgaimnmaaGreatDoor
/- The core's things: its stacks, a shard's box and wheel. -/
namespace Go.Proofs.YtdemhabgaimnmaaGreatDoor
open Go.RowKit
set_option maxRecDepth 100000
set_option linter.unusedVariables false

set_option maxHeartbeats 400000 in
theorem core_log {E : G} {L : Lab} {S : St} {w : World} (hg : Good E L S w) :
    Calls Tryz.prog 49 #[.pointer (some ⟨E.k, 0, none⟩)] w fun e w' => e = .returned (.pointer (some ⟨E.k, 2, none⟩)) ∧ w' = w := by
  clear hg
  go_enter Tryz.func49, Tryz.ntmps49
  go_wp2
  go_ret
  exact ⟨rfl, rfl⟩
end Go.Proofs.YtdemhabgaimnmaaGreatDoor
/- A stack's indices, first to last. -/
namespace Go.Proofs.YtdemhabgaimnmaaGreatDoor
open Go.RowKit
set_option maxRecDepth 100000
set_option linter.unusedVariables false

theorem own_form {w : World} {base : Nat} {e : TypeId} {size : Nat} {v : Value} {n : Nat} {xs : List Value} (h : w.ownsRow base e size v n xs) : ∃ a cap, v = .slice a n cap := by
  rcases h.2 with ⟨rfl, h0⟩ | ⟨g, cap, cur, rfl, _⟩
  · exact ⟨none, 0, by rw [h0]⟩
  · exact ⟨_, cap, rfl⟩
theorem own_mono {w : World} {base base' : Nat} {e : TypeId} {size : Nat} {v : Value} {n : Nat} {xs : List Value} (h : w.ownsRow base e size v n xs) (hb : base' ≤ base) : w.ownsRow base' e size v n xs :=
  ⟨h.1, h.2.elim .inl fun ⟨g, cap, cur, h1, h2, h3⟩ => .inr ⟨g, cap, cur, h1, Nat.le_trans hb h2, h3⟩⟩

end Go.Proofs.YtdemhabgaimnmaaGreatDoor
/- A region that draws its order, by an invariant on what is done, the slots and the world. -/
namespace Go.Proofs.YtdemhabgaimnmaaGreatDoor
open Go
set_option linter.unusedVariables false

section
variable {P : Program} {ops : Array Oper}
/-- Every operation waits for earlier ones alone. -/
def backB (ops : Array Oper) : Bool := (List.range ops.size).all fun i => ((ops[i]?).map fun o => o.after.all fun e => decide (e.on < i)).getD true
theorem ready_nil {md : Region.Mode} (hb : backB ops = true) {listed : Array Bool} (h : Region.ready md ops listed = []) : ∀ (n i : Nat), i < n → i < ops.size → listed.getD i true = true := by
  intro n
  induction n with
  | zero => intro i hi; omega
  | succ n ih =>
    intro i hi hlt
    by_cases hin : i < n
    · exact ih i hin hlt
    · obtain rfl : i = n := by omega
      cases hl : listed.getD i true with
      | true => rfl
      | false =>
        have ho : ops[i]? = some ops[i] := Array.getElem?_eq_getElem hlt
        have hmem : i ∈ Region.ready md ops listed := by
          refine mem_ready.2 ⟨hl, ops[i], ho, fun e he _ => ?_⟩
          have h1 := List.all_eq_true.1 hb i (List.mem_range.2 hlt)
          rw [ho] at h1
          have h2 : e.on < i := by
            have := Array.all_eq_true_iff_forall_mem.1 h1 e he
            exact of_decide_eq_true this
          have h3 := ih e.on h2 (by omega)
          cases h4 : listed.getD e.on false with
          | true => rfl
          | false =>
            exfalso
            rcases Nat.lt_or_ge e.on listed.size with h5 | h5
            · simp [h5] at h3 h4; rw [h4] at h3; cases h3
            · have h6 : listed.size ≤ i := by omega
              simp [Array.getElem?_eq_none h6] at hl
        rw [h] at hmem
        cases hmem
/-- The law: what holds at first, is kept by each operation whose turn may come, and hands over at the end. -/
theorem wp_region_inv {id : Nat} {Q : Exit → Act → World → Prop} {a : Act} {w : World} {l : List Oper} (INV : Array Bool → Act → World → Prop) (hm : P.follows .mixedOrders = true) (hb : backB l.toArray = true)
    (h0 : INV (Array.replicate l.toArray.size false) a { w with drawn := w.drawn + 1 })
    (hstep : ∀ (i : Nat) (listed : Array Bool) (a : Act) (w : World) (o : Oper), l.toArray[i]? = some o → listed.size = l.toArray.size → INV listed a w → listed.getD i true = false → (∀ e ∈ o.after, Region.binds .any e = true → listed.getD e.on false = true) →
      ∀ K : Act → World → Prop, (∀ a' w', INV (listed.setIfInBounds i true) a' w' → K a' w') → wpOp P l.toArray Q i K a w)
    (hend : ∀ (listed : Array Bool) (a : Act) (w : World), listed.size = l.toArray.size → INV listed a w → (∀ i, i < l.toArray.size → listed.getD i true = true) → Q .normal a w) :
    (Code.region id l.toArray true).wp P Q a w := by
  refine wp_region_any hm ?_
  have key : ∀ (f : Nat) (listed : Array Bool) (a : Act) (w : World), listed.size = l.toArray.size → (listed.toList.countP fun b => !b) ≤ f → INV listed a w → wpAny P .any l.toArray Q f listed a w := by
    intro f
    induction f with
    | zero =>
      intro listed a w hs hc hi
      have hall : ∀ i, i < l.toArray.size → listed.getD i true = true := by
        intro i hlt
        have h1 : (listed.toList.countP fun b => !b) = 0 := by omega
        have h2 := List.countP_eq_zero.1 h1
        have h3 : i < listed.size := by omega
        have h4 := h2 listed[i] (by simp)
        simp [h3]
        simpa using h4
      refine ⟨?_, hend listed a w hs hi hall⟩
      refine List.eq_nil_iff_forall_not_mem.2 fun i hmem => ?_
      obtain ⟨h1, o, ho, _⟩ := mem_ready.1 hmem
      have := hall i (Array.getElem?_eq_some_iff.1 ho).1
      rw [this] at h1
      cases h1
    | succ f ih =>
      intro listed a w hs hc hi
      refine ⟨fun hnil => hend listed a w hs hi fun i hlt => ready_nil hb hnil (i + 1) i (by omega) hlt, fun i hmem => ?_⟩
      obtain ⟨h1, o, ho, h2⟩ := mem_ready.1 hmem
      refine hstep i listed a w o ho hs hi h1 h2 _ fun a' w' hi' => ih _ a' w' (by simpa using hs) ?_ hi'
      have hlt : i < listed.size := by rw [hs]; exact (Array.getElem?_eq_some_iff.1 ho).1
      have hset : (listed.setIfInBounds i true).toList = listed.toList.set i true := by simp
      rw [hset, List.countP_set (by simpa using hlt)]
      have hfi : listed.toList[i]'(by simpa using hlt) = false := by simp [hlt] at h1; simpa using h1
      rw [hfi]
      show (listed.toList.countP fun b => !b) - 1 + 0 ≤ f
      omega
  exact key _ _ a _ (by simp) (by have := List.countP_le_length (p := fun b => !b) (l := (Array.replicate l.toArray.size false).toList); simpa using this) h0
end
end Go.Proofs.YtdemhabgaimnmaaGreatDoor
