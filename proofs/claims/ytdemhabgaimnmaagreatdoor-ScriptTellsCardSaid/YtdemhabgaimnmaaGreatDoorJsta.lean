/- The pure machine's memory, and what it is for Go's memory to hold it. -/
import Derived.Test.YtdemhabgaimnmaaGreatDoorChecked
import Derived.WalkKit
import Derived.WalkSpells
import Derived.WalkLawsBesides
import Derived.Shelf.Abstract
import Derived.Lib.Hide
import Derived.Deep.QuietTactic
import Derived.BigQuiet
import Derived.StillTailTactics
namespace Go.Proofs.YtdemhabgaimnmaaGreatDoor
open Go.RowKit
set_option linter.unusedVariables false

/-- The call hands v back, and has turned nothing (it may have drawn). -/
def Qt (v : Value) (w : World) (e : Ending) (w' : World) : Prop := e = .returned v ∧ ∃ m, w' = w.drewN m

/-- A configuration's numbers. -/
structure Cf where
  workers : Nat
  levels : Nat
  bits : Nat
  nodes : Nat
  tickets : Nat
  slack : Nat
  first : Nat
  conns : Nat
  timeout : Nat
  base : Nat
  cap : Nat
  jitter : Nat
  attempts : Nat
  deriving DecidableEq

namespace Cf
def slots (c : Cf) : Nat := 2 ^ c.bits
def shard (c : Cf) : Nat := 3 + c.levels * (1 + c.slots)
def nodesAt (c : Cf) : Nat := 3 + c.workers * c.shard
def ticketsAt (c : Cf) : Nat := c.nodesAt + 4 * c.nodes
def connsAt (c : Cf) : Nat := c.ticketsAt + 3 * c.tickets
def size (c : Cf) : Nat := c.connsAt + c.conns
structure Ok (c : Cf) : Prop where
  w1 : 1 ≤ c.workers
  w2 : c.workers ≤ 64
  l1 : 1 ≤ c.levels
  l2 : c.levels ≤ 8
  b1 : 1 ≤ c.bits
  b2 : c.bits ≤ 6
  n1 : 1 ≤ c.nodes
  n2 : c.nodes ≤ 4096
  t1 : 1 ≤ c.tickets
  t2 : c.tickets ≤ 8192
  s2 : c.slack ≤ 1073741823
  f2 : c.first ≤ 4294967295
  c2 : c.conns ≤ 256
  o1 : 1 ≤ c.timeout
  o2 : c.timeout ≤ 1073741823
  a1 : 1 ≤ c.base
  a2 : c.base ≤ 1073741823
  p1 : 1 ≤ c.cap
  p2 : c.cap ≤ 1073741823
  j2 : c.jitter ≤ 1073741823
  r2 : c.attempts ≤ 31
theorem Ok.slots_le {c : Cf} (h : c.Ok) : 2 ≤ c.slots ∧ c.slots ≤ 64 := by
  unfold slots
  have h1 := Nat.pow_le_pow_right (n := 2) (by omega) h.b1
  have h2 := Nat.pow_le_pow_right (n := 2) (by omega) h.b2
  omega
theorem Ok.shard_le {c : Cf} (h : c.Ok) : 6 ≤ c.shard ∧ c.shard ≤ 523 := by
  unfold shard
  have h1 := h.slots_le
  have h2 : c.levels * (1 + c.slots) ≤ 8 * 65 := Nat.mul_le_mul h.l2 (by omega)
  have h3 : 1 * 3 ≤ c.levels * (1 + c.slots) := Nat.mul_le_mul h.l1 (by omega)
  omega
theorem Ok.nodesAt_le {c : Cf} (h : c.Ok) : 9 ≤ c.nodesAt ∧ c.nodesAt ≤ 33475 := by
  unfold nodesAt
  have h1 := h.shard_le
  have h2 : c.workers * c.shard ≤ 64 * 523 := Nat.mul_le_mul h.w2 h1.2
  have h3 : 1 * 6 ≤ c.workers * c.shard := Nat.mul_le_mul h.w1 h1.1
  omega
theorem Ok.ticketsAt_le {c : Cf} (h : c.Ok) : 13 ≤ c.ticketsAt ∧ c.ticketsAt ≤ 49859 := by
  unfold ticketsAt
  have h1 := h.nodesAt_le
  have := h.n1
  have := h.n2
  omega
theorem Ok.connsAt_le {c : Cf} (h : c.Ok) : 16 ≤ c.connsAt ∧ c.connsAt ≤ 74435 := by
  unfold connsAt
  have h1 := h.ticketsAt_le
  have := h.t1
  have := h.t2
  omega
theorem Ok.size_le {c : Cf} (h : c.Ok) : 16 ≤ c.size ∧ c.size ≤ 74691 := by
  unfold size
  have h1 := h.connsAt_le
  have := h.c2
  omega
theorem Ok.hW {c : Cf} (hok : c.Ok) : (c.workers : Int) * c.shard ≤ 33472 := by
  have h : c.workers * c.shard ≤ 64 * 523 := Nat.mul_le_mul hok.w2 hok.shard_le.2
  rw [← Int.natCast_mul]; omega
theorem Ok.hL {c : Cf} (hok : c.Ok) : (c.levels : Int) * (1 + c.slots) ≤ 520 := by
  have h : c.levels * (1 + c.slots) ≤ 8 * 65 := Nat.mul_le_mul hok.l2 (by have := hok.slots_le; omega)
  have e : (c.levels : Int) * (1 + c.slots) = ((c.levels * (1 + c.slots) : Nat) : Int) := by rw [Int.natCast_mul]; rfl
  omega
end Cf

/-- An event of a machine. -/
structure Ev where
  kind : Int := 0
  worker : Int := 0
  op : Int := 0
  hn : Int := 0
  hg : Int := 0
  nn : Int := 0
  ng : Int := 0
  time : Int := 0
  arg : Int := 0
  user : Int := 0
  yes : Bool := false
  err : Int := 0
  deriving DecidableEq, Inhabited

def Ev.cells (e : Ev) : List Value := [.int .i64 e.kind, .int .i64 e.worker, .int .i64 e.op, .int .i64 e.hn, .int .i64 e.hg, .int .i64 e.nn, .int .i64 e.ng, .int .i64 e.time, .int .i64 e.arg, .int .i64 e.user, .bool e.yes, .int .i64 e.err]

/-- A caller's own slice: where the variable lies, what its elements are, how many there are, what they hold. -/
structure Sl where
  b : Nat
  o : Nat
  ty : TypeId
  sz : Nat
  n : Nat
  xs : List Value

/-- What all programs share: the cells, how often they were touched, the history; and what the caller's own variables hold. -/
structure St where
  n : Nat
  m : Nat → Nat
  cnt : Nat
  log : List Ev
  reg : List ((Nat × Nat) × Value)
  sl : Option Sl := none

namespace St
def has (S : St) (i : Int) : Prop := 0 ≤ i ∧ i < S.n
instance (S : St) (i : Int) : Decidable (S.has i) := by unfold has; infer_instance
def get (S : St) (i : Int) : Nat := if S.has i then S.m i.toNat else 0
def touch (S : St) (i : Int) : St := if S.has i then { S with cnt := S.cnt + 1 } else S
def put (S : St) (i : Int) (v : Nat) : St := if S.has i then { S with cnt := S.cnt + 1, m := fun j => if j = i.toNat then v else S.m j } else S
end St

/-- Where things lie. -/
structure G where
  k : Nat
  p : Nat
  a : Nat
  c : Nat
  cf : Cf

/-- Whose a block is: 0 nobody's any more (it stays as it is), 1 the core's, 2 the arena's, 3 the cells', 4 the history's, 5 to 7 the caller's variables, 8 + t task t's own. -/
abbrev Lab := Nat → Nat

structure PlanAt (w : World) (p : Nat) (c : Cf) : Prop where
  c0 : w.cell? ⟨p, 0, none⟩ = some (.int .i64 c.workers)
  c1 : w.cell? ⟨p, 1, none⟩ = some (.int .i64 c.levels)
  c2 : w.cell? ⟨p, 2, none⟩ = some (.int .i64 c.bits)
  c3 : w.cell? ⟨p, 3, none⟩ = some (.int .i64 c.nodes)
  c4 : w.cell? ⟨p, 4, none⟩ = some (.int .i64 c.tickets)
  c5 : w.cell? ⟨p, 5, none⟩ = some (.int .i64 c.slack)
  c6 : w.cell? ⟨p, 6, none⟩ = some (.int .i64 c.first)
  c7 : w.cell? ⟨p, 7, none⟩ = some (.int .i64 c.conns)
  c8 : w.cell? ⟨p, 8, none⟩ = some (.int .i64 c.timeout)
  c9 : w.cell? ⟨p, 9, none⟩ = some (.int .i64 c.base)
  c10 : w.cell? ⟨p, 10, none⟩ = some (.int .i64 c.cap)
  c11 : w.cell? ⟨p, 11, none⟩ = some (.int .i64 c.jitter)
  c12 : w.cell? ⟨p, 12, none⟩ = some (.int .i64 c.attempts)
  c13 : w.cell? ⟨p, 13, none⟩ = some (.int .i64 c.slots)
  c14 : w.cell? ⟨p, 14, none⟩ = some (.int .i64 c.shard)
  c15 : w.cell? ⟨p, 15, none⟩ = some (.int .i64 c.nodesAt)
  c16 : w.cell? ⟨p, 16, none⟩ = some (.int .i64 c.ticketsAt)
  c17 : w.cell? ⟨p, 17, none⟩ = some (.int .i64 c.connsAt)

structure ArenaAt (w : World) (a c : Nat) (S : St) : Prop where
  a0 : w.cell? ⟨a, 0, none⟩ = some (.slice (some ⟨c, 0, none⟩) S.n S.n)
  a1 : w.cell? ⟨a, 1, none⟩ = some (.int .i64 S.cnt)
  af : w.frozen? ⟨a, 1, none⟩ = false
  c0 : ∀ i, i < S.n → w.cell? ⟨c, i, none⟩ = some (.int .u64 (S.m i))
  cf : ∀ i, i < S.n → w.frozen? ⟨c, i, none⟩ = false
  ne : a ≠ c
  n2 : S.n ≤ 1048576
  m64 : ∀ i, S.m i < 18446744073709551616
  cnt2 : S.cnt ≤ 4611686018427387904

structure LogAt (w : World) (k : Nat) (L : Lab) (l : List Ev) : Prop where
  kf : w.frozen? ⟨k, 2, none⟩ = false
  ex : ∃ lv, w.cell? ⟨k, 2, none⟩ = some lv ∧ w.ownsRow 0 85 12 lv l.length (l.flatMap Ev.cells) ∧ ∀ g, lv.ownBlock = some g → L g = 4

/-- A caller's slice in memory: 5 is its variable's label, 6 that of the block in which its elements lie. -/
structure SlAt (w : World) (L : Lab) (s : Sl) : Prop where
  fz : w.frozen? ⟨s.b, s.o, none⟩ = false
  lb : L s.b = 5
  ex : ∃ v, w.cell? ⟨s.b, s.o, none⟩ = some v ∧ w.ownsRow 0 s.ty s.sz v s.n s.xs ∧ ∀ g, v.ownBlock = some g → L g = 6

structure Good (E : G) (L : Lab) (S : St) (w : World) : Prop where
  ok : E.cf.Ok
  k0 : w.cell? ⟨E.k, 0, none⟩ = some (.pointer (some ⟨E.p, 0, none⟩))
  k1 : w.cell? ⟨E.k, 1, none⟩ = some (.pointer (some ⟨E.a, 0, none⟩))
  pl : PlanAt w E.p E.cf
  ar : ArenaAt w E.a E.c S
  lg : LogAt w E.k L S.log
  rg : ∀ b o v, ((b, o), v) ∈ S.reg → w.cell? ⟨b, o, none⟩ = some v ∧ w.frozen? ⟨b, o, none⟩ = false ∧ L b = 5
  lk : L E.k = 1
  lp : L E.p = 0
  la : L E.a = 2
  lc : L E.c = 3
  new : ∀ b, w.heap.size ≤ b → L b = 0
  sv : ∀ s, S.sl = some s → SlAt w L s ∧ (s.b, s.o) ∉ S.reg.map Prod.fst

/-- What others may do while a task waits: nothing to what is nobody's, or the task's own. -/
structure Ext (t : Nat) (L : Lab) (w : World) (L' : Lab) (w' : World) : Prop where
  os : w'.os = w.os
  tape : w'.tape = w.tape
  output : w'.output = w.output
  size : w.heap.size ≤ w'.heap.size
  block : ∀ b, b < w.heap.size → L b = 0 ∨ L b = 8 + t → w'.heap[b]? = w.heap[b]?
  lab : ∀ b, b < w.heap.size → L' b = L b

/-- What a task may do: nothing to what is nobody's, or another task's. -/
structure Did (t : Nat) (L : Lab) (w : World) (L' : Lab) (w' : World) : Prop where
  os : w'.os = w.os
  tape : w'.tape = w.tape
  output : w'.output = w.output
  size : w.heap.size ≤ w'.heap.size
  block : ∀ b, b < w.heap.size → L b = 0 ∨ (8 ≤ L b ∧ L b ≠ 8 + t) → w'.heap[b]? = w.heap[b]?
  lab : ∀ b, b < w.heap.size → L' b = L b

/-- Nothing but what all share was turned. -/
structure Shr (L : Lab) (w : World) (L' : Lab) (w' : World) : Prop where
  os : w'.os = w.os
  tape : w'.tape = w.tape
  output : w'.output = w.output
  size : w.heap.size ≤ w'.heap.size
  block : ∀ b, b < w.heap.size → L b = 0 ∨ 8 ≤ L b → w'.heap[b]? = w.heap[b]?
  lab : ∀ b, b < w.heap.size → L' b = L b

theorem Shr.ext {L L' : Lab} {w w' : World} (h : Shr L w L' w') (t : Nat) : Ext t L w L' w' :=
  ⟨h.os, h.tape, h.output, h.size, fun b hb hl => h.block b hb (by omega), h.lab⟩
theorem Shr.did {L L' : Lab} {w w' : World} (h : Shr L w L' w') (t : Nat) : Did t L w L' w' :=
  ⟨h.os, h.tape, h.output, h.size, fun b hb hl => h.block b hb (by omega), h.lab⟩
theorem Shr.refl (L : Lab) (w : World) : Shr L w L w := ⟨rfl, rfl, rfl, Nat.le_refl _, fun _ _ _ => rfl, fun _ _ => rfl⟩
theorem Ext.refl (t : Nat) (L : Lab) (w : World) : Ext t L w L w := (Shr.refl L w).ext t
theorem Did.refl (t : Nat) (L : Lab) (w : World) : Did t L w L w := (Shr.refl L w).did t
theorem Ext.trans {t : Nat} {L L1 L2 : Lab} {w w1 w2 : World} (h : Ext t L w L1 w1) (k : Ext t L1 w1 L2 w2) : Ext t L w L2 w2 :=
  ⟨k.os.trans h.os, k.tape.trans h.tape, k.output.trans h.output, Nat.le_trans h.size k.size,
    fun b hb hl => (k.block b (Nat.lt_of_lt_of_le hb h.size) (by rw [h.lab b hb]; exact hl)).trans (h.block b hb hl),
    fun b hb => (k.lab b (Nat.lt_of_lt_of_le hb h.size)).trans (h.lab b hb)⟩
theorem Did.trans {t : Nat} {L L1 L2 : Lab} {w w1 w2 : World} (h : Did t L w L1 w1) (k : Did t L1 w1 L2 w2) : Did t L w L2 w2 :=
  ⟨k.os.trans h.os, k.tape.trans h.tape, k.output.trans h.output, Nat.le_trans h.size k.size,
    fun b hb hl => (k.block b (Nat.lt_of_lt_of_le hb h.size) (by rw [h.lab b hb]; exact hl)).trans (h.block b hb hl),
    fun b hb => (k.lab b (Nat.lt_of_lt_of_le hb h.size)).trans (h.lab b hb)⟩
theorem Shr.trans {L L1 L2 : Lab} {w w1 w2 : World} (h : Shr L w L1 w1) (k : Shr L1 w1 L2 w2) : Shr L w L2 w2 :=
  ⟨k.os.trans h.os, k.tape.trans h.tape, k.output.trans h.output, Nat.le_trans h.size k.size,
    fun b hb hl => (k.block b (Nat.lt_of_lt_of_le hb h.size) (by rw [h.lab b hb]; exact hl)).trans (h.block b hb hl),
    fun b hb => (k.lab b (Nat.lt_of_lt_of_le hb h.size)).trans (h.lab b hb)⟩
theorem Shr.of_below {w w' : World} (h : Below w.heap.size w w') (L : Lab) : Shr L w L w' :=
  ⟨h.os, h.tape, h.output, h.size, fun b hb _ => h.block b hb, fun _ _ => rfl⟩
/-- Another task's doing is no more than what a task must bear. -/
theorem Did.ext {t u : Nat} {L L' : Lab} {w w' : World} (h : Did u L w L' w') (hne : t ≠ u) : Ext t L w L' w' :=
  ⟨h.os, h.tape, h.output, h.size, fun b hb hl => h.block b hb (by omega), h.lab⟩

theorem cell_lt {w : World} {a : Addr} {v : Value} (h : w.cell? a = some v) : a.block < w.heap.size := World.block_lt_of_cell? w a h
theorem Ext.cell {t : Nat} {L L' : Lab} {w w' : World} (h : Ext t L w L' w') {a : Addr} {v : Value} (hc : w.cell? a = some v) (hl : L a.block = 0 ∨ L a.block = 8 + t) : w'.cell? a = some v :=
  (World.cell?_of_block (h.block a.block (cell_lt hc) hl)).trans hc
theorem Shr.cell {L L' : Lab} {w w' : World} (h : Shr L w L' w') {a : Addr} {v : Value} (hc : w.cell? a = some v) (hl : L a.block = 0 ∨ 8 ≤ L a.block) : w'.cell? a = some v :=
  (World.cell?_of_block (h.block a.block (cell_lt hc) hl)).trans hc
theorem bcell {B : Nat} {w w' : World} (h : Below B w w') {a : Addr} {v : Value} (hc : w.cell? a = some v) (hB : a.block < B) : w'.cell? a = some v := (h.cell hB).trans hc
theorem below_cell {w w' : World} (h : Below w.heap.size w w') {a : Addr} {v : Value} (hc : w.cell? a = some v) : w'.cell? a = some v := bcell h hc (cell_lt hc)

theorem PlanAt.mono {w w' : World} {p : Nat} {c : Cf} (h : PlanAt w p c) (hw : w'.heap[p]? = w.heap[p]?) : PlanAt w' p c := by
  have e : ∀ j, w'.cell? ⟨p, j, none⟩ = w.cell? ⟨p, j, none⟩ := fun j => World.cell?_of_block (a := ⟨p, j, none⟩) hw
  constructor <;> (rw [e]; first | exact h.c0 | exact h.c1 | exact h.c2 | exact h.c3 | exact h.c4 | exact h.c5 | exact h.c6 | exact h.c7 | exact h.c8 | exact h.c9 | exact h.c10 | exact h.c11 | exact h.c12 | exact h.c13 | exact h.c14 | exact h.c15 | exact h.c16 | exact h.c17)

theorem ArenaAt.below {w w' : World} {a c : Nat} {S : St} (h : ArenaAt w a c S) (ha : w'.heap[a]? = w.heap[a]?) (hc : w'.heap[c]? = w.heap[c]?) : ArenaAt w' a c S where
  a0 := (World.cell?_of_block (a := ⟨a, 0, none⟩) ha).trans h.a0
  a1 := (World.cell?_of_block (a := ⟨a, 1, none⟩) ha).trans h.a1
  af := (World.frozen?_of_block (a := ⟨a, 1, none⟩) ha).trans h.af
  c0 := fun i hi => (World.cell?_of_block (a := ⟨c, i, none⟩) hc).trans (h.c0 i hi)
  cf := fun i hi => (World.frozen?_of_block (a := ⟨c, i, none⟩) hc).trans (h.cf i hi)
  ne := h.ne
  n2 := h.n2
  m64 := h.m64
  cnt2 := h.cnt2
theorem ownsRow_block {w w' : World} {base : Nat} {e : TypeId} {size : Nat} {v : Value} {n : Nat} {xs : List Value} (h : w.ownsRow base e size v n xs) (hb : ∀ g, v.ownBlock = some g → w'.heap[g]? = w.heap[g]?) : w'.ownsRow base e size v n xs := by
  refine ⟨h.1, ?_⟩
  rcases h.2 with hn | ⟨g, cap, cur, rfl, hbg, hg, rest⟩
  · exact .inl hn
  · exact .inr ⟨g, cap, cur, rfl, hbg, (hb g rfl).trans hg, rest⟩
theorem LogAt.below {w w' : World} {k : Nat} {L L' : Lab} {l : List Ev} (h : LogAt w k L l) (hk : w'.heap[k]? = w.heap[k]?) (hb : ∀ g, L g = 4 → g < w.heap.size → w'.heap[g]? = w.heap[g]? ∧ L' g = L g) : LogAt w' k L' l := by
  obtain ⟨kf, lv, h1, h2, h3⟩ := h
  have hlt : ∀ g, lv.ownBlock = some g → g < w.heap.size := fun g hg => (h2.lt g hg).2
  exact ⟨(World.frozen?_of_block (a := ⟨k, 2, none⟩) hk).trans kf, lv, (World.cell?_of_block (a := ⟨k, 2, none⟩) hk).trans h1, ownsRow_block h2 (fun g hg => (hb g (h3 g hg) (hlt g hg)).1), fun g hg => ((hb g (h3 g hg) (hlt g hg)).2).trans (h3 g hg)⟩

theorem SlAt.lt {w : World} {L : Lab} {s : Sl} (h : SlAt w L s) : s.b < w.heap.size := by
  obtain ⟨v, h1, _⟩ := h.ex
  exact cell_lt h1
theorem SlAt.below {w w' : World} {L L' : Lab} {s : Sl} (h : SlAt w L s) (hk : w'.heap[s.b]? = w.heap[s.b]?) (hl : L' s.b = L s.b) (hb : ∀ g, L g = 6 → g < w.heap.size → w'.heap[g]? = w.heap[g]? ∧ L' g = L g) : SlAt w' L' s := by
  obtain ⟨fz, lb, v, h1, h2, h3⟩ := h
  have hlt : ∀ g, v.ownBlock = some g → g < w.heap.size := fun g hg => (h2.lt g hg).2
  exact ⟨(World.frozen?_of_block (a := ⟨s.b, s.o, none⟩) hk).trans fz, hl.trans lb, v, (World.cell?_of_block (a := ⟨s.b, s.o, none⟩) hk).trans h1, ownsRow_block h2 (fun g hg => (hb g (h3 g hg) (hlt g hg)).1), fun g hg => ((hb g (h3 g hg) (hlt g hg)).2).trans (h3 g hg)⟩

/-- What only makes new memory leaves all as it is. -/
theorem Good.below {E : G} {L : Lab} {S : St} {w w' : World} (h : Good E L S w) (hb : Below w.heap.size w w') : Good E L S w' where
  ok := h.ok
  k0 := below_cell hb h.k0
  k1 := below_cell hb h.k1
  pl := h.pl.mono (hb.block _ (cell_lt h.pl.c0))
  ar := h.ar.below (hb.block _ (cell_lt h.ar.a0)) (by
    by_cases hc : E.c < w.heap.size
    · exact hb.block _ hc
    · have := h.new E.c (by omega); have := h.lc; omega)
  lg := h.lg.below (hb.block _ (cell_lt h.k0)) (fun g _ hg => ⟨hb.block g hg, rfl⟩)
  rg := fun b o v hv => ⟨below_cell hb (h.rg b o v hv).1, (hb.frozen (p := ⟨b, o, none⟩) (cell_lt (h.rg b o v hv).1)).trans (h.rg b o v hv).2.1, (h.rg b o v hv).2.2⟩
  lk := h.lk
  lp := h.lp
  la := h.la
  lc := h.lc
  new := fun b hb' => h.new b (Nat.le_trans hb.size hb')
  sv := fun s hs => ⟨(h.sv s hs).1.below (hb.block _ (h.sv s hs).1.lt) rfl (fun g _ hg => ⟨hb.block g hg, rfl⟩), (h.sv s hs).2⟩
end Go.Proofs.YtdemhabgaimnmaaGreatDoor
/- Atomic cells and the arena: contracts. -/
namespace Go.Proofs.YtdemhabgaimnmaaGreatDoor
open Go.RowKit
set_option maxRecDepth 100000
set_option linter.unusedVariables false

theorem Shr.set {L : Lab} {w : World} {a : Addr} (v : Value) (h1 : 1 ≤ L a.block) (h2 : L a.block < 8) : Shr L w L (w.setCell a v) :=
  ⟨rfl, rfl, rfl, by simp [World.setCell], fun b hb hl => Below.heap_setCell _ _ _ _ (by intro h; subst h; omega), fun _ _ => rfl⟩

theorem cell_set_other {w : World} {a b : Addr} {u v : Value} (h : w.cell? b = some u) (hne : b.block ≠ a.block) : (w.setCell a v).cell? b = some u :=
  (World.cell?_of_block (Below.heap_setCell _ _ _ _ hne)).trans h
theorem LogAt.set {w : World} {k : Nat} {L : Lab} {l : List Ev} {a : Addr} (h : LogAt w k L l) (v : Value) (h1 : k ≠ a.block) (h2 : L a.block ≠ 4) : LogAt (w.setCell a v) k L l :=
  h.below (Below.heap_setCell _ _ _ _ h1) (fun g hg _ => ⟨Below.heap_setCell _ _ _ _ (by intro e; subst e; exact h2 hg), rfl⟩)

theorem SlAt.set {w : World} {L : Lab} {s : Sl} {a : Addr} (h : SlAt w L s) (v : Value) (h5 : L a.block ≠ 5) (h6 : L a.block ≠ 6) : SlAt (w.setCell a v) L s :=
  h.below (Below.heap_setCell _ _ _ _ (by intro e; exact h5 (e ▸ h.lb))) rfl (fun g hg _ => ⟨Below.heap_setCell _ _ _ _ (by intro e; subst e; exact h6 hg), rfl⟩)
theorem Good.count {E : G} {L : Lab} {S : St} {w : World} (h : Good E L S w) (hc : S.cnt + 1 ≤ 4611686018427387904) :
    Good E L { S with cnt := S.cnt + 1 } (w.setCell ⟨E.a, 1, none⟩ (.int .i64 ((S.cnt : Int) + 1))) := by
  have ha := h.la
  have nk : E.k ≠ E.a := by intro e; have := h.lk; rw [e] at this; omega
  have np : E.p ≠ E.a := by intro e; have := h.lp; rw [e] at this; omega
  have nc : E.c ≠ E.a := by intro e; have := h.lc; rw [e] at this; omega
  refine ⟨h.ok, cell_set_other h.k0 nk, cell_set_other h.k1 nk, h.pl.mono (Below.heap_setCell _ _ _ _ np), ?_, h.lg.set _ nk (by show L E.a ≠ 4; omega), ?_, h.lk, h.lp, h.la, h.lc, fun b hb => h.new b (by simpa [World.setCell] using hb), fun s hs => ⟨(h.sv s hs).1.set _ (by show L E.a ≠ 5; omega) (by show L E.a ≠ 6; omega), (h.sv s hs).2⟩⟩
  · refine ⟨?_, ?_, ?_, fun i hi => cell_set_other (h.ar.c0 i hi) nc, ?_, h.ar.ne, h.ar.n2, h.ar.m64, hc⟩
    · rw [World.cell?_setCell_other _ _ _ _ (by simp)]; exact h.ar.a0
    · rw [World.cell?_setCell_same _ _ _ h.ar.a1]; simp
    · rw [World.frozen?_setCell]; exact h.ar.af
    · intro i hi; rw [World.frozen?_setCell]; exact h.ar.cf i hi
  · intro b o v hv
    obtain ⟨r1, r2, r3⟩ := h.rg b o v hv
    exact ⟨cell_set_other r1 (by intro e; have e : b = E.a := e; subst e; omega), by rw [World.frozen?_setCell]; exact r2, r3⟩

theorem Good.poke {E : G} {L : Lab} {S : St} {w : World} (h : Good E L S w) {i v : Nat} (hi : i < S.n) (hv : v < 18446744073709551616) :
    Good E L { S with m := fun j => if j = i then v else S.m j } (w.setCell ⟨E.c, i, none⟩ (.int .u64 v)) := by
  have ha := h.lc
  have nk : E.k ≠ E.c := by intro e; have := h.lk; rw [e] at this; omega
  have np : E.p ≠ E.c := by intro e; have := h.lp; rw [e] at this; omega
  have na : E.a ≠ E.c := h.ar.ne
  refine ⟨h.ok, cell_set_other h.k0 nk, cell_set_other h.k1 nk, h.pl.mono (Below.heap_setCell _ _ _ _ np), ?_, h.lg.set _ nk (by show L E.c ≠ 4; omega), ?_, h.lk, h.lp, h.la, h.lc, fun b hb => h.new b (by simpa [World.setCell] using hb), fun s hs => ⟨(h.sv s hs).1.set _ (by show L E.c ≠ 5; omega) (by show L E.c ≠ 6; omega), (h.sv s hs).2⟩⟩
  · refine ⟨cell_set_other h.ar.a0 na, cell_set_other h.ar.a1 na, by rw [World.frozen?_setCell]; exact h.ar.af, ?_, ?_, h.ar.ne, h.ar.n2, ?_, h.ar.cnt2⟩
    · intro j hj
      show _ = some (Value.int .u64 ((if j = i then v else S.m j : Nat) : Int))
      by_cases e : j = i
      · subst e
        rw [World.cell?_setCell_same _ _ _ (h.ar.c0 j hj)]; simp
      · rw [World.cell?_setCell_other _ _ _ _ (by intro h; injection h with _ h2 _; exact e h2.symm), if_neg e]; exact h.ar.c0 j hj
    · intro j hj; rw [World.frozen?_setCell]; exact h.ar.cf j hj
    · intro j
      show (if j = i then v else S.m j) < _
      split
      · exact hv
      · exact h.ar.m64 j
  · intro b o u hu
    obtain ⟨r1, r2, r3⟩ := h.rg b o u hu
    exact ⟨cell_set_other r1 (by intro e; have e : b = E.c := e; subst e; omega), by rw [World.frozen?_setCell]; exact r2, r3⟩

set_option maxHeartbeats 400000 in
theorem u64_load (b o : Nat) (v : Int) (w : World) (h : w.cell? ⟨b, o, none⟩ = some (.int .u64 v)) :
    Calls Tryz.prog 175 #[.pointer (some ⟨b, o, none⟩)] w fun e w' => e = .returned (.int .u64 v) ∧ w' = w := by
  have hl := run_call_load (P := Tryz.prog) Tryz.func221 (by kernel_rfl) (by kernel_rfl) (by kernel_rfl) .u64 (by kernel_rfl) h
  go_enter Tryz.func175, Tryz.ntmps175
  go_wp2
  go_ret
  exact ⟨rfl, rfl⟩

set_option maxHeartbeats 400000 in
theorem u64_store (b o : Nat) (u v : Int) (w : World) (h : w.cell? ⟨b, o, none⟩ = some (.int .u64 u)) (hf : w.frozen? ⟨b, o, none⟩ = false) :
    Calls Tryz.prog 101 #[.pointer (some ⟨b, o, none⟩), .int .u64 v] w fun e w' => e = .returned (.tuple #[]) ∧ w' = w.setCell ⟨b, o, none⟩ (.int .u64 v) := by
  have hl := run_call_store (P := Tryz.prog) Tryz.func127 (by kernel_rfl) (by kernel_rfl) (by kernel_rfl) (by kernel_rfl) (k := .u64) (y := v) h hf
  go_enter Tryz.func101, Tryz.ntmps101
  go_wp2
  go_end0
  exact ⟨rfl, rfl⟩

set_option maxHeartbeats 400000 in
theorem i64_add1 (b o : Nat) (u : Int) (w : World) (h : w.cell? ⟨b, o, none⟩ = some (.int .i64 u)) (hf : w.frozen? ⟨b, o, none⟩ = false) (h0 : 0 ≤ u) (h1 : u < 9000000000000000000) :
    Calls Tryz.prog 129 #[.pointer (some ⟨b, o, none⟩), .int .i64 1] w fun e w' => e = .returned (.int .i64 (u + 1)) ∧ w' = w.setCell ⟨b, o, none⟩ (.int .i64 (u + 1)) := by
  have hl := run_call_add (P := Tryz.prog) Tryz.func176 (by kernel_rfl) (by kernel_rfl) (by kernel_rfl) .i64 (by kernel_rfl) (y := 1) (s := u + 1) h hf (by simp [Op.intArith, go_sem]; rw [IntWalk.i64_in _ (by omega)])
  go_enter Tryz.func129, Tryz.ntmps129
  go_wp2
  go_ret
  exact ⟨rfl, rfl⟩


set_option maxHeartbeats 400000 in
theorem arena_at_yes (b cb : Nat) (i : Nat) (u : Int) (w : World) (l : Nat)
    (h0 : w.cell? ⟨b, 0, none⟩ = some (.slice (some ⟨cb, 0, none⟩) l l)) (h1 : w.cell? ⟨b, 1, none⟩ = some (.int .i64 u)) (hf : w.frozen? ⟨b, 1, none⟩ = false)
    (hu0 : 0 ≤ u) (hu1 : u < 9000000000000000000) (hi : i < l) (hl : l ≤ 2000000) (hcb : cb ≠ b) :
    Calls Tryz.prog 103 #[.pointer (some ⟨b, 0, none⟩), .int .i64 i] w fun e w' => e = .returned (.pointer (some ⟨cb, i, none⟩)) ∧ w' = w.setCell ⟨b, 1, none⟩ (.int .i64 (u + 1)) := by
  go_enter Tryz.func103, Tryz.ntmps103
  go_wp2_with (go_at_call 129; refine (i64_add1 _ _ u _ h1 hf hu0 hu1).mono ?_; rintro e w' ⟨rfl, rfl⟩)
  go_ret
  exact ⟨rfl, rfl⟩

theorem at_yes {E : G} {L : Lab} {S : St} {w : World} (h : Good E L S w) (i : Nat) (hi : i < S.n) (hc : S.cnt + 1 ≤ 4611686018427387904) :
    Calls Tryz.prog 103 #[.pointer (some ⟨E.a, 0, none⟩), .int .i64 i] w fun e w' => e = .returned (.pointer (some ⟨E.c, i, none⟩)) ∧ Good E L { S with cnt := S.cnt + 1 } w' ∧ Shr L w L w' :=
  (arena_at_yes E.a E.c i S.cnt w S.n h.ar.a0 h.ar.a1 h.ar.af (by omega) (by omega) hi (by have := h.ar.n2; omega) (Ne.symm h.ar.ne)).mono
    fun e w' ⟨he, hw⟩ => ⟨he, by subst hw; exact h.count hc, by subst hw; exact Shr.set _ (by show 1 ≤ L E.a; have := h.la; omega) (by show L E.a < 8; have := h.la; omega)⟩

end Go.Proofs.YtdemhabgaimnmaaGreatDoor
/- The plan: which cell is what. -/
namespace Go.Proofs.YtdemhabgaimnmaaGreatDoor
open Go.RowKit
set_option maxRecDepth 100000
set_option linter.unusedVariables false

def among (base i many apart : Int) : Int := if i < 0 ∨ many ≤ i then -1 else base + i * apart
def within (base far : Int) : Int := if base < 0 ∨ far < 0 then -1 else base + far

namespace Cf
def at_ (c : Cf) (s : Int) : Int := among 3 s c.workers c.shard
def cur (c : Cf) (s : Int) : Int := within (c.at_ s) 1
def over (c : Cf) (s : Int) : Int := within (c.at_ s) 2
def map (c : Cf) (s level : Int) : Int := within (c.at_ s) (among 3 level c.levels (1 + c.slots))
def slot (c : Cf) (s level i : Int) : Int := within (c.map s level) (among 1 i c.slots 1)
def node (c : Cf) (n i : Int) : Int := within (among c.nodesAt n c.nodes 4) i
def ticket (c : Cf) (t i : Int) : Int := within (among c.ticketsAt t c.tickets 3) i
def state (c : Cf) (n : Int) : Int := c.node n 0
def home (c : Cf) (n : Int) : Int := c.node n 1
def user (c : Cf) (n : Int) : Int := c.node n 2
def nodeLink (c : Cf) (n : Int) : Int := c.node n 3
def key (c : Cf) (t : Int) : Int := c.ticket t 0
def time (c : Cf) (t : Int) : Int := c.ticket t 1
def ticketLink (c : Cf) (t : Int) : Int := c.ticket t 2
end Cf

theorem among_yes {base i many apart : Int} (h : 0 ≤ i ∧ i < many) : among base i many apart = base + i * apart := by unfold among; rw [if_neg (by omega)]
theorem among_no {base i many apart : Int} (h : ¬ (0 ≤ i ∧ i < many)) : among base i many apart = -1 := by unfold among; rw [if_pos (by omega)]
/-- The bounds of a row's places. -/
theorem mul_bd {i many apart M : Int} (h0 : 0 ≤ i) (h1 : i < many) (ha : 0 ≤ apart) (hM : many * apart ≤ M) : 0 ≤ i * apart ∧ i * apart + apart ≤ M := by
  have h2 : i * apart + apart = (i + 1) * apart := by rw [Int.add_mul, Int.one_mul]
  have h3 : (i + 1) * apart ≤ many * apart := Int.mul_le_mul_of_nonneg_right (by omega) ha
  have h4 : 0 ≤ i * apart := Int.mul_nonneg h0 ha
  omega
theorem among_bd {base i many apart M : Int} (hb : 0 ≤ base) (ha : 0 ≤ apart) (hM : many * apart ≤ M) (h0 : 0 ≤ M) : -1 ≤ among base i many apart ∧ among base i many apart ≤ base + M := by
  by_cases h : 0 ≤ i ∧ i < many
  · rw [among_yes h]
    have := mul_bd h.1 h.2 ha hM
    omega
  · rw [among_no h]; omega
set_option maxHeartbeats 400000 in
theorem among_any (base i many apart M : Int) (w : World) (hb : 0 ≤ base) (hb2 : base ≤ 1000000) (ha : 0 ≤ apart) (hm : many * apart ≤ M) (hM : M ≤ 1000000) :
    Calls Tryz.prog 126 #[.int .i64 base, .int .i64 i, .int .i64 many, .int .i64 apart] w fun e w' => e = .returned (.int .i64 (among base i many apart)) ∧ w' = w := by
  by_cases h : 0 ≤ i ∧ i < many
  · rw [among_yes h]
    obtain ⟨h1, h2⟩ := h
    have h3 := mul_bd h1 h2 ha hm
    generalize hx : i * apart = x at h3 ⊢
    have e1 : IntKind.i64.wrap (i * apart) = x := by rw [hx]; exact IntWalk.i64_in _ (by omega)
    have e2 : IntKind.i64.wrap (base + x) = base + x := IntWalk.i64_in _ (by omega)
    obtain ⟨h4, h5⟩ := h3
    clear hm hx
    go_enter Tryz.func126, Tryz.ntmps126
    go_wp2
    go_ret
    exact ⟨rfl, rfl⟩
  · rw [among_no h]
    by_cases h1 : i < 0
    · clear hm
      go_enter Tryz.func126, Tryz.ntmps126
      go_wp2
      go_ret
      exact ⟨rfl, rfl⟩
    · have h2 : many ≤ i := by omega
      clear hm
      go_enter Tryz.func126, Tryz.ntmps126
      go_wp2
      go_ret
      exact ⟨rfl, rfl⟩

set_option maxHeartbeats 400000 in
theorem within_any (base far : Int) (w : World) (hb : base ≤ 10000000) (hf : far ≤ 10000000) :
    Calls Tryz.prog 125 #[.int .i64 base, .int .i64 far] w fun e w' => e = .returned (.int .i64 (within base far)) ∧ w' = w := by
  unfold within
  by_cases h : base < 0
  · rw [if_pos (.inl h)]
    go_enter Tryz.func125, Tryz.ntmps125
    go_wp2
    go_ret
    exact ⟨rfl, rfl⟩
  · by_cases h2 : far < 0
    · rw [if_pos (.inr h2)]
      go_enter Tryz.func125, Tryz.ntmps125
      go_wp2
      go_ret
      exact ⟨rfl, rfl⟩
    · rw [if_neg (by omega)]
      go_enter Tryz.func125, Tryz.ntmps125
      go_wp2
      go_ret
      exact ⟨rfl, rfl⟩
set_option maxHeartbeats 400000 in
theorem plan_Clock (p : Nat) (w : World) :
    Calls Tryz.prog 85 #[.pointer (some ⟨p, 0, none⟩)] w fun e w' => e = .returned (.int .i64 0) ∧ w' = w := by
  go_enter Tryz.func85, Tryz.ntmps85
  go_wp2
  go_ret
  exact ⟨rfl, rfl⟩

set_option maxHeartbeats 400000 in
theorem plan_Nodes (p : Nat) (w : World) :
    Calls Tryz.prog 76 #[.pointer (some ⟨p, 0, none⟩)] w fun e w' => e = .returned (.int .i64 1) ∧ w' = w := by
  go_enter Tryz.func76, Tryz.ntmps76
  go_wp2
  go_ret
  exact ⟨rfl, rfl⟩

set_option maxHeartbeats 400000 in
theorem plan_Tickets (p : Nat) (w : World) :
    Calls Tryz.prog 78 #[.pointer (some ⟨p, 0, none⟩)] w fun e w' => e = .returned (.int .i64 2) ∧ w' = w := by
  go_enter Tryz.func78, Tryz.ntmps78
  go_wp2
  go_ret
  exact ⟨rfl, rfl⟩

set_option maxHeartbeats 400000 in
theorem plan_node {c : Cf} (hok : c.Ok) (p : Nat) (n i : Int) (w : World) (h : PlanAt w p c) (hi : i ≤ 10) :
    Calls Tryz.prog 98 #[.pointer (some ⟨p, 0, none⟩), .int .i64 n, .int .i64 i] w (Qt (.int .i64 (c.node n i)) w) := by
  have hn := hok.nodesAt_le
  have ht := hok.ticketsAt_le
  have hx := hok.connsAt_le
  have hs := hok.shard_le
  have hsl := hok.slots_le
  have n2 := hok.n2
  have t2 := hok.t2
  have c2 := hok.c2
  have w2 := hok.w2
  have l2 := hok.l2
  have hW := hok.hW
  have hL := hok.hL
  have nb := among_bd (base := c.nodesAt) (i := n) (many := c.nodes) (apart := 4) (M := 16384) (by omega) (by omega) (by omega) (by omega)
  have hp : ∀ q, PlanAt (w.drewN q) p c := fun q => h.mono rfl
  obtain ⟨c0, c1, c2', c3, c4, c5, c6, c7, c8, c9, c10, c11, c12, c13, c14, c15, c16, c17⟩ := h
  clear c5 c6 c8 c9 c10 c11 c12 c2'
  have HW := Go.Lib.hid hW; clear hW
  have HL := Go.Lib.hid hL; clear hL
  go_enter Tryz.func98, Tryz.ntmps98
  try go_wp2_with fail
  go_quiet (first
    | (go_at_call 126; refine Calls.quiet_of_same (among_any c.nodesAt n c.nodes 4 16384 _ (by omega) (by omega) (by omega) (by omega) (by omega)))
    | (go_at_call 125; refine Calls.quiet_of_same (within_any (among c.nodesAt n c.nodes 4) i _ (by omega) (by omega))))
  go_wp2
  go_ret
  exact ⟨rfl, _, rfl⟩

set_option maxHeartbeats 400000 in
theorem plan_ticket {c : Cf} (hok : c.Ok) (p : Nat) (t i : Int) (w : World) (h : PlanAt w p c) (hi : i ≤ 10) :
    Calls Tryz.prog 99 #[.pointer (some ⟨p, 0, none⟩), .int .i64 t, .int .i64 i] w (Qt (.int .i64 (c.ticket t i)) w) := by
  have hn := hok.nodesAt_le
  have ht := hok.ticketsAt_le
  have hx := hok.connsAt_le
  have hs := hok.shard_le
  have hsl := hok.slots_le
  have n2 := hok.n2
  have t2 := hok.t2
  have c2 := hok.c2
  have w2 := hok.w2
  have l2 := hok.l2
  have hW := hok.hW
  have hL := hok.hL
  have tb := among_bd (base := c.ticketsAt) (i := t) (many := c.tickets) (apart := 3) (M := 24576) (by omega) (by omega) (by omega) (by omega)
  have hp : ∀ q, PlanAt (w.drewN q) p c := fun q => h.mono rfl
  obtain ⟨c0, c1, c2', c3, c4, c5, c6, c7, c8, c9, c10, c11, c12, c13, c14, c15, c16, c17⟩ := h
  clear c5 c6 c8 c9 c10 c11 c12 c2'
  have HW := Go.Lib.hid hW; clear hW
  have HL := Go.Lib.hid hL; clear hL
  go_enter Tryz.func99, Tryz.ntmps99
  try go_wp2_with fail
  go_quiet (first
    | (go_at_call 126; refine Calls.quiet_of_same (among_any c.ticketsAt t c.tickets 3 24576 _ (by omega) (by omega) (by omega) (by omega) (by omega)))
    | (go_at_call 125; refine Calls.quiet_of_same (within_any (among c.ticketsAt t c.tickets 3) i _ (by omega) (by omega))))
  go_wp2
  go_ret
  exact ⟨rfl, _, rfl⟩

set_option maxHeartbeats 400000 in
theorem plan_State {c : Cf} (hok : c.Ok) (p : Nat) (n : Int) (w : World) (h : PlanAt w p c) :
    Calls Tryz.prog 81 #[.pointer (some ⟨p, 0, none⟩), .int .i64 n] w (Qt (.int .i64 (c.state n)) w) := by
  have hn := hok.nodesAt_le
  have ht := hok.ticketsAt_le
  have hx := hok.connsAt_le
  have hs := hok.shard_le
  have hsl := hok.slots_le
  have n2 := hok.n2
  have t2 := hok.t2
  have c2 := hok.c2
  have w2 := hok.w2
  have l2 := hok.l2
  have hW := hok.hW
  have hL := hok.hL
  have hp : ∀ q, PlanAt (w.drewN q) p c := fun q => h.mono rfl
  obtain ⟨c0, c1, c2', c3, c4, c5, c6, c7, c8, c9, c10, c11, c12, c13, c14, c15, c16, c17⟩ := h
  clear c5 c6 c8 c9 c10 c11 c12 c2'
  have HW := Go.Lib.hid hW; clear hW
  have HL := Go.Lib.hid hL; clear hL
  go_enter Tryz.func81, Tryz.ntmps81
  go_wp2_with fail
  refine (plan_node hok p n 0 _ (hp 0) (by omega)).mono ?_
  rintro e w' ⟨rfl, _, rfl⟩
  go_wp2
  go_ret
  exact ⟨rfl, _, rfl⟩

set_option maxHeartbeats 400000 in
theorem plan_NodeLink {c : Cf} (hok : c.Ok) (p : Nat) (n : Int) (w : World) (h : PlanAt w p c) :
    Calls Tryz.prog 77 #[.pointer (some ⟨p, 0, none⟩), .int .i64 n] w (Qt (.int .i64 (c.nodeLink n)) w) := by
  have hn := hok.nodesAt_le
  have ht := hok.ticketsAt_le
  have hx := hok.connsAt_le
  have hs := hok.shard_le
  have hsl := hok.slots_le
  have n2 := hok.n2
  have t2 := hok.t2
  have c2 := hok.c2
  have w2 := hok.w2
  have l2 := hok.l2
  have hW := hok.hW
  have hL := hok.hL
  have hp : ∀ q, PlanAt (w.drewN q) p c := fun q => h.mono rfl
  obtain ⟨c0, c1, c2', c3, c4, c5, c6, c7, c8, c9, c10, c11, c12, c13, c14, c15, c16, c17⟩ := h
  clear c5 c6 c8 c9 c10 c11 c12 c2'
  have HW := Go.Lib.hid hW; clear hW
  have HL := Go.Lib.hid hL; clear hL
  go_enter Tryz.func77, Tryz.ntmps77
  go_wp2_with fail
  refine (plan_node hok p n 3 _ (hp 0) (by omega)).mono ?_
  rintro e w' ⟨rfl, _, rfl⟩
  go_wp2
  go_ret
  exact ⟨rfl, _, rfl⟩

set_option maxHeartbeats 400000 in
theorem plan_TicketLink {c : Cf} (hok : c.Ok) (p : Nat) (t : Int) (w : World) (h : PlanAt w p c) :
    Calls Tryz.prog 79 #[.pointer (some ⟨p, 0, none⟩), .int .i64 t] w (Qt (.int .i64 (c.ticketLink t)) w) := by
  have hn := hok.nodesAt_le
  have ht := hok.ticketsAt_le
  have hx := hok.connsAt_le
  have hs := hok.shard_le
  have hsl := hok.slots_le
  have n2 := hok.n2
  have t2 := hok.t2
  have c2 := hok.c2
  have w2 := hok.w2
  have l2 := hok.l2
  have hW := hok.hW
  have hL := hok.hL
  have hp : ∀ q, PlanAt (w.drewN q) p c := fun q => h.mono rfl
  obtain ⟨c0, c1, c2', c3, c4, c5, c6, c7, c8, c9, c10, c11, c12, c13, c14, c15, c16, c17⟩ := h
  clear c5 c6 c8 c9 c10 c11 c12 c2'
  have HW := Go.Lib.hid hW; clear hW
  have HL := Go.Lib.hid hL; clear hL
  go_enter Tryz.func79, Tryz.ntmps79
  go_wp2_with fail
  refine (plan_ticket hok p t 2 _ (hp 0) (by omega)).mono ?_
  rintro e w' ⟨rfl, _, rfl⟩
  go_wp2
  go_ret
  exact ⟨rfl, _, rfl⟩

end Go.Proofs.YtdemhabgaimnmaaGreatDoor
/- The pure machine: what each step of a program does to the cells and the history. -/
namespace Go.Proofs.YtdemhabgaimnmaaGreatDoor
open Go.RowKit
set_option linter.unusedVariables false

/-- A word's part. -/
def part (x s n : Nat) : Nat := x / 2 ^ s % 2 ^ n
/-- int(v) of a uint64; uint64(i) of an int. -/
def toI (v : Nat) : Int := wrap64 v
def toU (i : Int) : Nat := (i % 18446744073709551616).toNat

def wsum (ws : List Nat) (k : Nat) : Nat := (ws.take k).sum
def packAcc (ws : List Nat) (ns : List Int) : Nat → Nat
  | 0 => 0
  | k + 1 => packAcc ws ns k + (ns.getD k 0).toNat * 2 ^ (64 - wsum ws (k + 1))
/-- Does the number go into its width? -/
def fits (n : Int) (w : Nat) : Bool := decide (0 ≤ n ∧ n < 2 ^ w)
/-- What 'pack' hands back. -/
def packed (ws : List Nat) (ns : List Int) : Nat × Int := if (List.range ws.length).all (fun j => fits (ns.getD j 0) (ws.getD j 0)) then (packAcc ws ns ws.length, 0) else (0, 2)

def stateWord (gen time status : Int) : Nat := (packed [32, 30, 2] [gen, time, status]).1
def headPacked (count index : Int) : Nat × Int := if index < -1 ∨ 4294967295 ≤ index then (0, 2) else packed [32, 32] [count, index + 1]
def headWord (count index : Int) : Nat := (headPacked count index).1
def headIdx (w : Nat) : Int := (part w 0 32 : Nat) - 1
def headCnt (w : Nat) : Nat := part w 32 32
/-- The word of a head whose first thing is another one, behind a word that was read. -/
def turned (old : Nat) (first : Int) : Nat := headWord (((headCnt old + 1) % 4294967296 : Nat) : Int) first

/-- What a continuation is handed. -/
inductive Arg where
  | u
  | w (x : Nat)
  | b (x : Bool)
  | i (x : Int)
  | pop (i : Int) (ok : Bool)
  | head (read : Nat) (first : Int)
  | key (gen version node due : Int)
  | he (node gen : Int) (e : Int)
  | e (e : Int)
  | ev (x : Ev)

def Arg.vals : Arg → Array Value
  | .u => #[]
  | .w x => #[.int .u64 x]
  | .b x => #[.bool x]
  | .i x => #[.int .i64 x]
  | .pop x y => #[.int .i64 x, .bool y]
  | .head x y => #[.int .u64 x, .int .i64 y]
  | .key x y z t => #[.agg #[.int .i64 x, .int .i64 y, .int .i64 z], .int .i64 t]
  | .he x y z => #[.agg #[.int .i64 x, .int .i64 y], .int .i64 z]
  | .e x => #[.int .i64 x]
  | .ev x => #[.agg x.cells.toArray]

inductive Stk where
  | nodes | tickets
  deriving DecidableEq

/-- What is done next: the closures that the programs make, with what they have captured. -/
inductive C (ρ : Type) where
  | ret (r : ρ)
  | popA (st : Stk) (k : C ρ)
  | popB (st : Stk) (head : Nat) (first : Int) (k : C ρ)
  | popC (st : Stk) (first : Int) (k : C ρ)
  | pushA (st : Stk) (i : Int) (k : C ρ)
  | pushB (st : Stk) (i : Int) (head : Nat) (k : C ρ)
  | pushC (st : Stk) (i : Int) (k : C ρ)
  | deadA (k : C ρ)
  | deadB (gen : Int) (k : C ρ)
  | writeA (t due : Int) (k : C ρ)
  | readA (t : Int) (k : C ρ)
  | readB (key : Nat) (k : C ρ)

inductive K (ρ : Type) where
  | load (i : Int) (k : C ρ)
  | store (i : Int) (v : Nat) (k : C ρ)
  | swap (i : Int) (v : Nat) (k : C ρ)
  | cas (i : Int) (old v : Nat) (k : C ρ)
  | idle (k : C ρ)

section
variable {ρ : Type} (cf : Cf) (R : ρ → Arg → St → St × Option (K ρ))

def Stk.head : Stk → Int
  | .nodes => 1
  | .tickets => 2
def Stk.link (cf : Cf) : Stk → Int → Int
  | .nodes => cf.nodeLink
  | .tickets => cf.ticketLink

def popK (st : Stk) (k : C ρ) : K ρ := .load st.head (.popA st k)
def pushK (st : Stk) (i : Int) (k : C ρ) : K ρ := .load st.head (.pushA st i k)
def app : C ρ → Arg → St → St × Option (K ρ)
  | .ret r, a, S => R r a S
  | .popA st k, .w head, S => if headIdx head < 0 then app k (.pop (-1) false) S else (S, some (.load (st.link cf (headIdx head)) (.popB st head (headIdx head) k)))
  | .popB st head first k, .w next, S => (S, some (.cas st.head head (turned head (wrap64 (toI next - 1))) (.popC st first k)))
  | .popC st first k, .b ok, S => if ok then app k (.pop first true) S else (S, some (popK st k))
  | .pushA st i k, .w head, S => (S, some (.store (st.link cf i) (toU (headIdx head + 1)) (.pushB st i head k)))
  | .pushB st i head k, .u, S => (S, some (.cas st.head head (turned head i) (.pushC st i k)))
  | .pushC st i k, .b ok, S => if ok then app k .u S else (S, some (pushK st i k))
  | .deadA k, .w x, S => (S, some (.load (cf.state (part x 0 16 : Nat)) (.deadB (part x 32 32 : Nat) k)))
  | .deadB gen k, .w x, S => app k (.b (decide (¬ (part x 0 2 = 1) ∨ ¬ (((part x 32 32 : Nat) : Int) = gen)))) S
  | .writeA t due k, .u, S => (S, some (.store (cf.time t) (toU due) k))
  | .readA t k, .w key, S => (S, some (.load (cf.time t) (.readB key k)))
  | .readB key k, .w due, S => app k (.key (part key 32 32 : Nat) (part key 16 16 : Nat) (part key 0 16 : Nat) (toI due)) S
  | _, _, S => (S, none)

/-- One step. -/
def step : K ρ → St → St × Option (K ρ)
  | .load i k, S => app cf R k (.w (S.get i)) (S.touch i)
  | .store i v k, S => app cf R k .u (S.put i v)
  | .swap i v k, S => app cf R k (.w (S.get i)) (S.put i v)
  | .cas i old v k, S => app cf R k (.b (decide (S.has i ∧ S.get i = old))) (if S.get i = old then S.put i v else S.touch i)
  | .idle k, S => app cf R k .u S
end

/-- Is all still small enough? -/
structure Bd (S : St) : Prop where
  cnt : S.cnt ≤ 4611686018427387904
  log : S.log.length ≤ 1099511627776

end Go.Proofs.YtdemhabgaimnmaaGreatDoor
/- Words: several numbers in one cell. -/
namespace Go.Proofs.YtdemhabgaimnmaaGreatDoor
open Go.RowKit
set_option maxRecDepth 100000
set_option linter.unusedVariables false

theorem mask_eq (n : Nat) (h1 : 1 ≤ n) (h2 : n ≤ 64) : (18446744073709551615 : Int) / 2 ^ (64 - n) = 2 ^ n - 1 := by
  have h : ∀ m : Fin 65, 1 ≤ m.1 → (18446744073709551615 : Int) / 2 ^ (64 - m.1) = 2 ^ m.1 - 1 := by decide +kernel
  exact h ⟨n, by omega⟩ h1

set_option maxHeartbeats 400000 in
theorem mask_any (n : Nat) (w : World) (h1 : 1 ≤ n) (h2 : n ≤ 64) :
    Calls Tryz.prog 124 #[.int .i64 n] w fun e w' => e = .returned (.int .u64 (2 ^ n - 1)) ∧ w' = w := by
  rw [← mask_eq n h1 h2]
  go_enter Tryz.func124, Tryz.ntmps124
  go_wp2
  go_ret
  exact ⟨rfl, rfl⟩

theorem pow_le62 {n : Nat} (h : n ≤ 62) : 2 ^ n ≤ 4611686018427387904 := Nat.le_trans (Nat.pow_le_pow_right (by omega) h) (by decide)
theorem two_pow_cast (n : Nat) : ((2 : Int) ^ n - 1) = ((2 ^ n - 1 : Nat) : Int) := by
  have h : 1 ≤ 2 ^ n := Nat.one_le_two_pow
  rw [Int.natCast_sub h]; simp
theorem bcells {W w1 : World} (hb : Below W.heap.size W w1) : (∀ b o, b < W.heap.size → w1.cell? ⟨b, o, none⟩ = W.cell? ⟨b, o, none⟩) ∧ (∀ b o, b < W.heap.size → w1.frozen? ⟨b, o, none⟩ = W.frozen? ⟨b, o, none⟩) :=
  ⟨fun b o h => hb.cell (p := ⟨b, o, none⟩) h, fun b o h => hb.frozen (p := ⟨b, o, none⟩) h⟩

end Go.Proofs.YtdemhabgaimnmaaGreatDoor
/- Words: laying numbers into one. -/
namespace Go.Proofs.YtdemhabgaimnmaaGreatDoor
open Go.RowKit
set_option maxRecDepth 100000
set_option linter.unusedVariables false

def allFit (ws : List Nat) (ns : List Int) (k : Nat) : Prop := ∀ j, j < k → 0 ≤ ns.getD j 0 ∧ ns.getD j 0 < 2 ^ ws.getD j 0

theorem wsum_succ (ws : List Nat) (k : Nat) (h : k < ws.length) : wsum ws (k + 1) = wsum ws k + ws.getD k 0 := by
  unfold wsum
  rw [List.take_succ_eq_append_getElem h, List.sum_append]
  simp [h]
theorem packAcc_dvd (ws : List Nat) (ns : List Int) (hw : ∀ k, k ≤ ws.length → wsum ws k ≤ 64) : ∀ k, k ≤ ws.length → ∃ q, packAcc ws ns k = 2 ^ (64 - wsum ws k) * q
  | 0, _ => ⟨0, rfl⟩
  | k + 1, h => by
    obtain ⟨q, hq⟩ := packAcc_dvd ws ns hw k (by omega)
    have h1 := wsum_succ ws k (by omega)
    have h2 := hw (k + 1) h
    refine ⟨2 ^ ws.getD k 0 * q + (ns.getD k 0).toNat, ?_⟩
    show packAcc ws ns k + _ = _
    rw [hq, Nat.mul_add, ← Nat.mul_assoc, ← Nat.pow_add, show 64 - wsum ws (k + 1) + ws.getD k 0 = 64 - wsum ws k from by omega, Nat.mul_comm (2 ^ (64 - wsum ws (k + 1)))  (ns.getD k 0).toNat]
theorem packAcc_lt (ws : List Nat) (ns : List Int) (hw : ∀ k, k ≤ ws.length → wsum ws k ≤ 64) : ∀ k, k ≤ ws.length → allFit ws ns k → packAcc ws ns k + 2 ^ (64 - wsum ws k) ≤ 18446744073709551616
  | 0, _, _ => by show 0 + 2 ^ (64 - 0) ≤ _; decide
  | k + 1, h, hf => by
    have ih := packAcc_lt ws ns hw k (by omega) (fun j hj => hf j (by omega))
    have h1 := wsum_succ ws k (by omega)
    have h2 := hw (k + 1) h
    obtain ⟨f0, f1⟩ := hf k (by omega)
    have f2 : (ns.getD k 0).toNat + 1 ≤ 2 ^ ws.getD k 0 := by
      have : ((ns.getD k 0).toNat : Int) < ((2 ^ ws.getD k 0 : Nat) : Int) := by rw [Int.toNat_of_nonneg f0]; simpa using f1
      omega
    have f3 : ((ns.getD k 0).toNat + 1) * 2 ^ (64 - wsum ws (k + 1)) ≤ 2 ^ ws.getD k 0 * 2 ^ (64 - wsum ws (k + 1)) := Nat.mul_le_mul_right _ f2
    rw [← Nat.pow_add, show ws.getD k 0 + (64 - wsum ws (k + 1)) = 64 - wsum ws k from by omega, Nat.add_mul, Nat.one_mul] at f3
    show packAcc ws ns k + _ + _ ≤ _
    omega
/-- One round: a number is laid below those that lie already. -/
theorem pack_or (ws : List Nat) (ns : List Int) (hw : ∀ k, k ≤ ws.length → wsum ws k ≤ 64) (k : Nat) (h : k < ws.length) (hf : allFit ws ns (k + 1)) :
    bits BinOp.or IntKind.u64 (packAcc ws ns k : Nat) (((ns.getD k 0).toNat * 2 ^ (64 - wsum ws (k + 1)) : Nat) : Int) = (packAcc ws ns (k + 1) : Nat) := by
  have h1 := packAcc_lt ws ns hw (k + 1) h hf
  have h0 := packAcc_lt ws ns hw k (by omega) (fun j hj => hf j (by omega))
  have h2 : packAcc ws ns (k + 1) = packAcc ws ns k + (ns.getD k 0).toNat * 2 ^ (64 - wsum ws (k + 1)) := rfl
  have h3 := Nat.two_pow_pos (64 - wsum ws (k + 1))
  have h4 := Nat.two_pow_pos (64 - wsum ws k)
  rw [u64_or_nat _ _ (by omega) (by omega), h2]
  obtain ⟨q, hq⟩ := packAcc_dvd ws ns hw k (by omega)
  have h5 := wsum_succ ws k h
  have h6 := hw (k + 1) h
  obtain ⟨f0, f1⟩ := hf k (by omega)
  have f2 : (ns.getD k 0).toNat < 2 ^ ws.getD k 0 := by
    have : ((ns.getD k 0).toNat : Int) < ((2 ^ ws.getD k 0 : Nat) : Int) := by rw [Int.toNat_of_nonneg f0]; simpa using f1
    omega
  have f3 : (ns.getD k 0).toNat * 2 ^ (64 - wsum ws (k + 1)) < 2 ^ (64 - wsum ws k) := by
    have := Nat.mul_lt_mul_of_pos_right f2 h3
    rwa [← Nat.pow_add, show ws.getD k 0 + (64 - wsum ws (k + 1)) = 64 - wsum ws k from by omega] at this
  rw [hq, Nat.two_pow_add_eq_or_of_lt f3]

theorem packed_lt (ws : List Nat) (ns : List Int) (hw : ∀ k, k ≤ ws.length → wsum ws k ≤ 64) (hl : ws.length = ns.length) : (packed ws ns).1 < 18446744073709551616 := by
  unfold packed
  split
  · rename_i h
    rw [List.all_eq_true] at h
    have := packAcc_lt ws ns hw ws.length (Nat.le_refl _) (fun j hj => by
      have := h j (List.mem_range.2 hj)
      unfold fits at this
      simpa using this)
    have := Nat.two_pow_pos (64 - wsum ws ws.length)
    show packAcc ws ns ws.length < _
    omega
  · show 0 < _; decide

theorem andNot_mask_fit (n : Int) (w : Nat) (hw : 1 ≤ w) (hw2 : w ≤ 62) (h0 : 0 ≤ n) (h1 : n < 9223372036854775808) :
    (bits BinOp.andNot IntKind.u64 n (2 ^ w - 1) = 0) ↔ n < 2 ^ w := by
  obtain ⟨m, rfl⟩ := Int.eq_ofNat_of_zero_le h0
  have hp := pow_le62 hw2
  rw [two_pow_cast, u64_andNot_nat _ _ (by omega) (by omega)]
  have e : 18446744073709551615 - (2 ^ w - 1) = 2 ^ 64 - (2 ^ w - 1 + 1) := by omega
  have hX : 18446744073709551615 - (2 ^ w - 1) = (2 ^ (64 - w) - 1) <<< w := by
    rw [Nat.shiftLeft_eq, Nat.sub_mul, ← Nat.pow_add, show 64 - w + w = 64 from by omega, Nat.one_mul]
    have := Nat.two_pow_pos w
    have e64 : 2 ^ 64 = 18446744073709551616 := rfl
    rw [e64]
    omega
  have hm : m >>> w < 2 ^ (64 - w) := by
    rw [Nat.shiftRight_eq_div_pow, Nat.div_lt_iff_lt_mul (Nat.two_pow_pos w), ← Nat.pow_add, show 64 - w + w = 64 from by omega]
    omega
  have hs : m &&& (2 ^ (64 - w) - 1) <<< w = (m >>> w &&& (2 ^ (64 - w) - 1)) <<< w := by
    apply Nat.eq_of_testBit_eq
    intro i
    simp only [Nat.testBit_and, Nat.testBit_shiftLeft, Nat.testBit_shiftRight]
    by_cases hi : w ≤ i
    · simp [hi, show w + (i - w) = i from by omega]
    · simp [hi]
  have key : m &&& (18446744073709551615 - (2 ^ w - 1)) = m - m % 2 ^ w := by
    rw [hX, hs, Nat.and_two_pow_sub_one_eq_mod, Nat.mod_eq_of_lt hm, Nat.shiftLeft_eq, Nat.shiftRight_eq_div_pow]
    have := Nat.div_add_mod m (2 ^ w)
    rw [Nat.mul_comm] at this
    omega
  rw [key]
  have := Nat.mod_lt m (Nat.two_pow_pos w)
  have := Nat.mod_le m (2 ^ w)
  have c : ((2 : Int) ^ w) = ((2 ^ w : Nat) : Int) := by simp
  rw [c]
  constructor
  · intro h
    have : m = m % 2 ^ w := by omega
    omega
  · intro h
    have h' : m < 2 ^ w := by omega
    rw [Nat.mod_eq_of_lt h']; simp

set_option maxHeartbeats 2000000 in
theorem pack_any (ws : List Nat) (ns : List Int) (b c capb capc : Nat) (w : World) (hl : ws.length = ns.length) (h4 : ws.length ≤ 4) (h1 : ∀ j, j < ws.length → 1 ≤ ws.getD j 0 ∧ ws.getD j 0 ≤ 62)
    (hw : ∀ k, k ≤ ws.length → wsum ws k ≤ 64) (h64 : ∀ j, j < ns.length → ns.getD j 0 < 9223372036854775808)
    (hb : ∀ j, j < ws.length → w.cell? ⟨b, j, none⟩ = some (.int .i64 (ws.getD j 0 : Nat)))
    (hc : ∀ j, j < ws.length → w.cell? ⟨c, j, none⟩ = some (.int .i64 (ns.getD j 0))) :
    Calls Tryz.prog 97 #[.slice (some ⟨b, 0, none⟩) ws.length capb, .slice (some ⟨c, 0, none⟩) ws.length capc] w fun e w' =>
      e = .returned (.tuple #[.int .u64 (packed ws ns).1, .int .i64 (packed ws ns).2]) ∧ w' = w := by
  have hall : ∀ k, k ≤ ws.length → allFit ws ns k → k = ws.length → packed ws ns = (packAcc ws ns ws.length, 0) := by
    intro k _ hf hk
    unfold packed
    rw [if_pos]
    rw [List.all_eq_true]
    intro j hj
    have := hf j (by rw [hk]; exact List.mem_range.1 hj)
    unfold fits; simpa using this
  have hno : ∀ k, k < ws.length → ¬ (0 ≤ ns.getD k 0 ∧ ns.getD k 0 < 2 ^ ws.getD k 0) → packed ws ns = (0, 2) := by
    intro k hk hn
    unfold packed
    rw [if_neg]
    rw [List.all_eq_true]
    intro h
    have := h k (List.mem_range.2 hk)
    unfold fits at this
    exact hn (by simpa using this)
  have HALL := Go.Lib.hid hall
  have HNO := Go.Lib.hid hno
  have HB := Go.Lib.hid hb
  have HC := Go.Lib.hid hc
  have HW := Go.Lib.hid hw
  have H1 := Go.Lib.hid h1
  have H64 := Go.Lib.hid h64
  have HL := Go.Lib.hid hl
  have HP : Hid (∀ k, k < ws.length → allFit ws ns (k + 1) → bits BinOp.or IntKind.u64 (packAcc ws ns k : Nat) (((ns.getD k 0).toNat * 2 ^ (64 - wsum ws (k + 1)) : Nat) : Int) = (packAcc ws ns (k + 1) : Nat)) := fun k hk hf => pack_or ws ns hw k hk hf
  clear hall hno hb hc hw h1 h64 hl
  generalize hgl : ws.length = l at *
  have HGL := Go.Lib.hid hgl
  clear hgl
  go_enter Tryz.func97, Tryz.ntmps97
  go_wp2
  go_loop [6, 7, 12] (fun u s i => ∃ k : Nat, k ≤ l ∧ i = .int .i64 k ∧ s = .int .i64 (64 - wsum ws k : Nat) ∧ u = .int .u64 (packAcc ws ns k : Nat) ∧ allFit ws ns k) (fun _ _ i => l - (intOf i).toNat)
  case atStart => exact ⟨0, Nat.zero_le _, rfl, rfl, rfl, fun j hj => absurd hj (by omega)⟩
  case round =>
    obtain ⟨k, hk, rfl, rfl, rfl, hfit⟩ := hrel
    have HF := Go.Lib.hid hfit
    clear hfit
    by_cases hlt : k < l
    · have e1 := HB.out k hlt
      have e2 := HC.out k hlt
      obtain ⟨b1, b2⟩ := H1.out k hlt
      have b3 := H64.out k (by rw [← HL.out]; exact hlt)
      generalize hn : ns.getD k 0 = n at e2 b3
      generalize hm : ws.getD k 0 = m at e1 b1 b2
      have HN := Go.Lib.hid hn
      have HM := Go.Lib.hid hm
      clear hn hm
      have hmask := mask_any m
      have HMK := Go.Lib.hid hmask
      clear hmask
      by_cases h0 : n < 0
      · go_wp2
        go_ret2
        exact ⟨by rw [HNO.out k hlt (by rw [HN.out]; omega)]; rfl, rfl⟩
      · have hsh := HW.out (k + 1) (by omega)
        have hsu := wsum_succ ws k (by rw [HGL.out]; exact hlt)
        rw [HM.out] at hsu
        have HSU := Go.Lib.hid hsu
        have hs2 : m ≤ 64 - wsum ws k := by omega
        clear hsu
        by_cases h1 : n < 2 ^ m
        · have hA : (bits BinOp.andNot IntKind.u64 n (2 ^ m - 1) != 0) = false := by
            rw [(andNot_mask_fit n m b1 b2 (by omega) b3).2 h1]; rfl
          go_wp2_with (go_at_call 124; refine (HMK.out _ b1 (by omega)).mono ?_; rintro e w' ⟨rfl, rfl⟩)
          have hfit' : allFit ws ns (k + 1) := by
            intro j hj
            by_cases e : j = k
            · subst e; rw [HN.out, HM.out]; exact ⟨by omega, h1⟩
            · exact HF.out j (by omega)
          have hor := HP.out k hlt hfit'
          have hlast := packAcc_lt ws ns (by rw [HGL.out]; exact HW.out) (k + 1) (by rw [HGL.out]; exact hlt) hfit'
          have hsu := HSU.out
          have hacc : packAcc ws ns (k + 1) = packAcc ws ns k + (ns.getD k 0).toNat * 2 ^ (64 - wsum ws (k + 1)) := rfl
          rw [HN.out, hsu, show 64 - (wsum ws k + m) = 64 - wsum ws k - m from by omega] at hor hacc
          refine ⟨⟨k + 1, by omega, by go_num, ?_, ?_, hfit'⟩, by simp [intOf]; omega⟩
          · rw [hsu]; congr 1; omega
          · rw [← hor]
            have hnn : ((n.toNat : Nat) : Int) = n := Int.toNat_of_nonneg (by omega)
            have e1 : n * 2 ^ (64 - wsum ws k - m) = ((n.toNat * 2 ^ (64 - wsum ws k - m) : Nat) : Int) := by rw [Int.natCast_mul, hnn]; simp
            rw [e1]
            have hp := Nat.two_pow_pos (64 - wsum ws (k + 1))
            rw [IntKind.wrap_u64, Int.emod_eq_of_lt (by omega) (by omega)]
        · have hA : (bits BinOp.andNot IntKind.u64 n (2 ^ m - 1) != 0) = true := by
            rw [bne_iff_ne]; intro h; exact h1 ((andNot_mask_fit n m b1 b2 (by omega) b3).1 h)
          have HH1 := Go.Lib.hid h1
          clear h1
          go_wp2_with (go_at_call 124; refine (HMK.out _ b1 (by omega)).mono ?_; rintro e w' ⟨rfl, rfl⟩)
          go_ret2
          exact ⟨by rw [HNO.out k hlt (by rw [HN.out, HM.out]; have := HH1.out; omega)]; rfl, rfl⟩
    · go_wp2
      go_ret2
      have hkl : k = l := by omega
      subst hkl
      rw [HALL.out k (Nat.le_refl _) HF.out rfl]
      exact ⟨rfl, rfl⟩
end Go.Proofs.YtdemhabgaimnmaaGreatDoor
/- Words: a state, a home, a key, a head, a connection as a word. -/
namespace Go.Proofs.YtdemhabgaimnmaaGreatDoor
open Go.RowKit
set_option maxRecDepth 100000
set_option linter.unusedVariables false

set_option maxHeartbeats 1000000 in
theorem word_State (gen time status : Int) (w : World) (h0 : gen < 9223372036854775808) (h1 : time < 9223372036854775808) (h2 : status < 9223372036854775808) :
    Calls Tryz.prog 80 #[.agg #[.int .i64 gen, .int .i64 time, .int .i64 status]] w fun e w' => e = .returned (.tuple #[.int .u64 (packed [32, 30, 2] [gen, time, status]).1, .int .i64 (packed [32, 30, 2] [gen, time, status]).2]) ∧ Below w.heap.size w w' := by
  go_enter Tryz.func80, Tryz.ntmps80
  go_wp2_with fail
  refine (pack_any [32, 30, 2] [gen, time, status] _ _ _ _ _ rfl (by decide) (by decide) (by decide) (by intro j hj; match j, hj with | 0, _ => exact h0 | 1, _ => exact h1 | 2, _ => exact h2) (by intro j hj; match j, hj with | 0, _ => go_simp | 1, _ => go_simp | 2, _ => go_simp) (by intro j hj; match j, hj with | 0, _ => go_simp | 1, _ => go_simp | 2, _ => go_simp)).mono ?_
  rintro e w' ⟨rfl, rfl⟩
  go_wp2
  go_ret2
  refine ⟨rfl, ?_⟩
  exact (((Below.refl _ _).alloc (Nat.le_refl _) _).alloc (by simp) _).alloc (by simp; omega) _

end Go.Proofs.YtdemhabgaimnmaaGreatDoor
