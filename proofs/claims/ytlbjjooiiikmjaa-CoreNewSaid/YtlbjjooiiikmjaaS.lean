/- The pure machine's memory, and what it is for Go's memory to hold it. -/
import Derived.Test.YtlbjjooiiikmjaaChecked
import Derived.WalkKit
import Derived.WalkSpells
import Derived.WalkLawsBesides
import Derived.Shelf.Abstract
import Derived.Lib.Hide
import Derived.Deep.QuietTactic
import Derived.BigQuiet
import Derived.StillTailTactics
namespace Go.Proofs.Ytlbjjooiiikmjaa
open Go.RowKit
set_option linter.unusedVariables false

/-- The call hands v back, and has turned nothing (it may have drawn). -/
def Qt (v : Value) (w : World) (e : Ending) (w' : World) : Prop := e = .returned v ∧ ∃ m, w' = w.drewN m

/-- A configuration's numbers. -/
structure Cf where
  workers : Nat
  levels : Nat
  bits : Nat
  nodes : Nat
  tickets : Nat
  slack : Nat
  first : Nat
  conns : Nat
  timeout : Nat
  base : Nat
  cap : Nat
  jitter : Nat
  attempts : Nat
  deriving DecidableEq

namespace Cf
def slots (c : Cf) : Nat := 2 ^ c.bits
def shard (c : Cf) : Nat := 3 + c.levels * (1 + c.slots)
def nodesAt (c : Cf) : Nat := 3 + c.workers * c.shard
def ticketsAt (c : Cf) : Nat := c.nodesAt + 4 * c.nodes
def connsAt (c : Cf) : Nat := c.ticketsAt + 3 * c.tickets
def size (c : Cf) : Nat := c.connsAt + c.conns
structure Ok (c : Cf) : Prop where
  w1 : 1 ≤ c.workers
  w2 : c.workers ≤ 64
  l1 : 1 ≤ c.levels
  l2 : c.levels ≤ 8
  b1 : 1 ≤ c.bits
  b2 : c.bits ≤ 6
  n1 : 1 ≤ c.nodes
  n2 : c.nodes ≤ 4096
  t1 : 1 ≤ c.tickets
  t2 : c.tickets ≤ 8192
  s2 : c.slack ≤ 1073741823
  f2 : c.first ≤ 4294967295
  c2 : c.conns ≤ 256
  o1 : 1 ≤ c.timeout
  o2 : c.timeout ≤ 1073741823
  a1 : 1 ≤ c.base
  a2 : c.base ≤ 1073741823
  p1 : 1 ≤ c.cap
  p2 : c.cap ≤ 1073741823
  j2 : c.jitter ≤ 1073741823
  r2 : c.attempts ≤ 31
theorem Ok.slots_le {c : Cf} (h : c.Ok) : 2 ≤ c.slots ∧ c.slots ≤ 64 := by
  unfold slots
  have h1 := Nat.pow_le_pow_right (n := 2) (by omega) h.b1
  have h2 := Nat.pow_le_pow_right (n := 2) (by omega) h.b2
  omega
theorem Ok.shard_le {c : Cf} (h : c.Ok) : 6 ≤ c.shard ∧ c.shard ≤ 523 := by
  unfold shard
  have h1 := h.slots_le
  have h2 : c.levels * (1 + c.slots) ≤ 8 * 65 := Nat.mul_le_mul h.l2 (by omega)
  have h3 : 1 * 3 ≤ c.levels * (1 + c.slots) := Nat.mul_le_mul h.l1 (by omega)
  omega
theorem Ok.nodesAt_le {c : Cf} (h : c.Ok) : 9 ≤ c.nodesAt ∧ c.nodesAt ≤ 33475 := by
  unfold nodesAt
  have h1 := h.shard_le
  have h2 : c.workers * c.shard ≤ 64 * 523 := Nat.mul_le_mul h.w2 h1.2
  have h3 : 1 * 6 ≤ c.workers * c.shard := Nat.mul_le_mul h.w1 h1.1
  omega
theorem Ok.ticketsAt_le {c : Cf} (h : c.Ok) : 13 ≤ c.ticketsAt ∧ c.ticketsAt ≤ 49859 := by
  unfold ticketsAt
  have h1 := h.nodesAt_le
  have := h.n1
  have := h.n2
  omega
theorem Ok.connsAt_le {c : Cf} (h : c.Ok) : 16 ≤ c.connsAt ∧ c.connsAt ≤ 74435 := by
  unfold connsAt
  have h1 := h.ticketsAt_le
  have := h.t1
  have := h.t2
  omega
theorem Ok.size_le {c : Cf} (h : c.Ok) : 16 ≤ c.size ∧ c.size ≤ 74691 := by
  unfold size
  have h1 := h.connsAt_le
  have := h.c2
  omega
theorem Ok.hW {c : Cf} (hok : c.Ok) : (c.workers : Int) * c.shard ≤ 33472 := by
  have h : c.workers * c.shard ≤ 64 * 523 := Nat.mul_le_mul hok.w2 hok.shard_le.2
  rw [← Int.natCast_mul]; omega
theorem Ok.hL {c : Cf} (hok : c.Ok) : (c.levels : Int) * (1 + c.slots) ≤ 520 := by
  have h : c.levels * (1 + c.slots) ≤ 8 * 65 := Nat.mul_le_mul hok.l2 (by have := hok.slots_le; omega)
  have e : (c.levels : Int) * (1 + c.slots) = ((c.levels * (1 + c.slots) : Nat) : Int) := by rw [Int.natCast_mul]; rfl
  omega
end Cf

/-- An event of a machine. -/
structure Ev where
  kind : Int := 0
  worker : Int := 0
  op : Int := 0
  hn : Int := 0
  hg : Int := 0
  nn : Int := 0
  ng : Int := 0
  time : Int := 0
  arg : Int := 0
  user : Int := 0
  yes : Bool := false
  err : Int := 0
  deriving DecidableEq, Inhabited

def Ev.cells (e : Ev) : List Value := [.int .i64 e.kind, .int .i64 e.worker, .int .i64 e.op, .int .i64 e.hn, .int .i64 e.hg, .int .i64 e.nn, .int .i64 e.ng, .int .i64 e.time, .int .i64 e.arg, .int .i64 e.user, .bool e.yes, .int .i64 e.err]

/-- What all programs share: the cells, how often they were touched, the history; and what the caller's own variables hold. -/
structure St where
  n : Nat
  m : Nat → Nat
  cnt : Nat
  log : List Ev
  reg : List (Nat × Value)

namespace St
def has (S : St) (i : Int) : Prop := 0 ≤ i ∧ i < S.n
instance (S : St) (i : Int) : Decidable (S.has i) := by unfold has; infer_instance
def get (S : St) (i : Int) : Nat := if S.has i then S.m i.toNat else 0
def touch (S : St) (i : Int) : St := if S.has i then { S with cnt := S.cnt + 1 } else S
def put (S : St) (i : Int) (v : Nat) : St := if S.has i then { S with cnt := S.cnt + 1, m := fun j => if j = i.toNat then v else S.m j } else S
end St

/-- Where things lie. -/
structure G where
  k : Nat
  p : Nat
  a : Nat
  c : Nat
  cf : Cf

/-- Whose a block is: 0 nobody's any more (it stays as it is), 1 the core's, 2 the arena's, 3 the cells', 4 the history's, 5 to 7 the caller's variables, 8 + t task t's own. -/
abbrev Lab := Nat → Nat

structure PlanAt (w : World) (p : Nat) (c : Cf) : Prop where
  c0 : w.cell? ⟨p, 0, none⟩ = some (.int .i64 c.workers)
  c1 : w.cell? ⟨p, 1, none⟩ = some (.int .i64 c.levels)
  c2 : w.cell? ⟨p, 2, none⟩ = some (.int .i64 c.bits)
  c3 : w.cell? ⟨p, 3, none⟩ = some (.int .i64 c.nodes)
  c4 : w.cell? ⟨p, 4, none⟩ = some (.int .i64 c.tickets)
  c5 : w.cell? ⟨p, 5, none⟩ = some (.int .i64 c.slack)
  c6 : w.cell? ⟨p, 6, none⟩ = some (.int .i64 c.first)
  c7 : w.cell? ⟨p, 7, none⟩ = some (.int .i64 c.conns)
  c8 : w.cell? ⟨p, 8, none⟩ = some (.int .i64 c.timeout)
  c9 : w.cell? ⟨p, 9, none⟩ = some (.int .i64 c.base)
  c10 : w.cell? ⟨p, 10, none⟩ = some (.int .i64 c.cap)
  c11 : w.cell? ⟨p, 11, none⟩ = some (.int .i64 c.jitter)
  c12 : w.cell? ⟨p, 12, none⟩ = some (.int .i64 c.attempts)
  c13 : w.cell? ⟨p, 13, none⟩ = some (.int .i64 c.slots)
  c14 : w.cell? ⟨p, 14, none⟩ = some (.int .i64 c.shard)
  c15 : w.cell? ⟨p, 15, none⟩ = some (.int .i64 c.nodesAt)
  c16 : w.cell? ⟨p, 16, none⟩ = some (.int .i64 c.ticketsAt)
  c17 : w.cell? ⟨p, 17, none⟩ = some (.int .i64 c.connsAt)

structure ArenaAt (w : World) (a c : Nat) (S : St) : Prop where
  a0 : w.cell? ⟨a, 0, none⟩ = some (.slice (some ⟨c, 0, none⟩) S.n S.n)
  a1 : w.cell? ⟨a, 1, none⟩ = some (.int .i64 S.cnt)
  af : w.frozen? ⟨a, 1, none⟩ = false
  c0 : ∀ i, i < S.n → w.cell? ⟨c, i, none⟩ = some (.int .u64 (S.m i))
  cf : ∀ i, i < S.n → w.frozen? ⟨c, i, none⟩ = false
  ne : a ≠ c
  n2 : S.n ≤ 1048576
  m64 : ∀ i, S.m i < 18446744073709551616
  cnt2 : S.cnt ≤ 4611686018427387904

structure LogAt (w : World) (k : Nat) (L : Lab) (l : List Ev) : Prop where
  kf : w.frozen? ⟨k, 2, none⟩ = false
  ex : ∃ lv, w.cell? ⟨k, 2, none⟩ = some lv ∧ w.ownsRow 0 43 12 lv l.length (l.flatMap Ev.cells) ∧ ∀ g, lv.ownBlock = some g → L g = 4

structure Good (E : G) (L : Lab) (S : St) (w : World) : Prop where
  ok : E.cf.Ok
  k0 : w.cell? ⟨E.k, 0, none⟩ = some (.pointer (some ⟨E.p, 0, none⟩))
  k1 : w.cell? ⟨E.k, 1, none⟩ = some (.pointer (some ⟨E.a, 0, none⟩))
  pl : PlanAt w E.p E.cf
  ar : ArenaAt w E.a E.c S
  lg : LogAt w E.k L S.log
  rg : ∀ b v, (b, v) ∈ S.reg → w.cell? ⟨b, 0, none⟩ = some v ∧ w.frozen? ⟨b, 0, none⟩ = false ∧ L b = 5
  lk : L E.k = 1
  lp : L E.p = 0
  la : L E.a = 2
  lc : L E.c = 3
  new : ∀ b, w.heap.size ≤ b → L b = 0

/-- What others may do while a task waits: nothing to what is nobody's, or the task's own. -/
structure Ext (t : Nat) (L : Lab) (w : World) (L' : Lab) (w' : World) : Prop where
  os : w'.os = w.os
  tape : w'.tape = w.tape
  output : w'.output = w.output
  size : w.heap.size ≤ w'.heap.size
  block : ∀ b, b < w.heap.size → L b = 0 ∨ L b = 8 + t → w'.heap[b]? = w.heap[b]?
  lab : ∀ b, b < w.heap.size → L' b = L b

/-- What a task may do: nothing to what is nobody's, or another task's. -/
structure Did (t : Nat) (L : Lab) (w : World) (L' : Lab) (w' : World) : Prop where
  os : w'.os = w.os
  tape : w'.tape = w.tape
  output : w'.output = w.output
  size : w.heap.size ≤ w'.heap.size
  block : ∀ b, b < w.heap.size → L b = 0 ∨ (8 ≤ L b ∧ L b ≠ 8 + t) → w'.heap[b]? = w.heap[b]?
  lab : ∀ b, b < w.heap.size → L' b = L b

/-- Nothing but what all share was turned. -/
structure Shr (L : Lab) (w : World) (L' : Lab) (w' : World) : Prop where
  os : w'.os = w.os
  tape : w'.tape = w.tape
  output : w'.output = w.output
  size : w.heap.size ≤ w'.heap.size
  block : ∀ b, b < w.heap.size → L b = 0 ∨ 8 ≤ L b → w'.heap[b]? = w.heap[b]?
  lab : ∀ b, b < w.heap.size → L' b = L b

theorem Shr.ext {L L' : Lab} {w w' : World} (h : Shr L w L' w') (t : Nat) : Ext t L w L' w' :=
  ⟨h.os, h.tape, h.output, h.size, fun b hb hl => h.block b hb (by omega), h.lab⟩
theorem Shr.did {L L' : Lab} {w w' : World} (h : Shr L w L' w') (t : Nat) : Did t L w L' w' :=
  ⟨h.os, h.tape, h.output, h.size, fun b hb hl => h.block b hb (by omega), h.lab⟩
theorem Shr.refl (L : Lab) (w : World) : Shr L w L w := ⟨rfl, rfl, rfl, Nat.le_refl _, fun _ _ _ => rfl, fun _ _ => rfl⟩
theorem Ext.refl (t : Nat) (L : Lab) (w : World) : Ext t L w L w := (Shr.refl L w).ext t
theorem Did.refl (t : Nat) (L : Lab) (w : World) : Did t L w L w := (Shr.refl L w).did t
theorem Ext.trans {t : Nat} {L L1 L2 : Lab} {w w1 w2 : World} (h : Ext t L w L1 w1) (k : Ext t L1 w1 L2 w2) : Ext t L w L2 w2 :=
  ⟨k.os.trans h.os, k.tape.trans h.tape, k.output.trans h.output, Nat.le_trans h.size k.size,
    fun b hb hl => (k.block b (Nat.lt_of_lt_of_le hb h.size) (by rw [h.lab b hb]; exact hl)).trans (h.block b hb hl),
    fun b hb => (k.lab b (Nat.lt_of_lt_of_le hb h.size)).trans (h.lab b hb)⟩
theorem Did.trans {t : Nat} {L L1 L2 : Lab} {w w1 w2 : World} (h : Did t L w L1 w1) (k : Did t L1 w1 L2 w2) : Did t L w L2 w2 :=
  ⟨k.os.trans h.os, k.tape.trans h.tape, k.output.trans h.output, Nat.le_trans h.size k.size,
    fun b hb hl => (k.block b (Nat.lt_of_lt_of_le hb h.size) (by rw [h.lab b hb]; exact hl)).trans (h.block b hb hl),
    fun b hb => (k.lab b (Nat.lt_of_lt_of_le hb h.size)).trans (h.lab b hb)⟩
theorem Shr.trans {L L1 L2 : Lab} {w w1 w2 : World} (h : Shr L w L1 w1) (k : Shr L1 w1 L2 w2) : Shr L w L2 w2 :=
  ⟨k.os.trans h.os, k.tape.trans h.tape, k.output.trans h.output, Nat.le_trans h.size k.size,
    fun b hb hl => (k.block b (Nat.lt_of_lt_of_le hb h.size) (by rw [h.lab b hb]; exact hl)).trans (h.block b hb hl),
    fun b hb => (k.lab b (Nat.lt_of_lt_of_le hb h.size)).trans (h.lab b hb)⟩
theorem Shr.of_below {w w' : World} (h : Below w.heap.size w w') (L : Lab) : Shr L w L w' :=
  ⟨h.os, h.tape, h.output, h.size, fun b hb _ => h.block b hb, fun _ _ => rfl⟩
/-- Another task's doing is no more than what a task must bear. -/
theorem Did.ext {t u : Nat} {L L' : Lab} {w w' : World} (h : Did u L w L' w') (hne : t ≠ u) : Ext t L w L' w' :=
  ⟨h.os, h.tape, h.output, h.size, fun b hb hl => h.block b hb (by omega), h.lab⟩

theorem cell_lt {w : World} {a : Addr} {v : Value} (h : w.cell? a = some v) : a.block < w.heap.size := World.block_lt_of_cell? w a h
theorem Ext.cell {t : Nat} {L L' : Lab} {w w' : World} (h : Ext t L w L' w') {a : Addr} {v : Value} (hc : w.cell? a = some v) (hl : L a.block = 0 ∨ L a.block = 8 + t) : w'.cell? a = some v :=
  (World.cell?_of_block (h.block a.block (cell_lt hc) hl)).trans hc
theorem Ext.cell0 {t : Nat} {L L' : Lab} {w w' : World} (h : Ext t L w L' w') {a : Addr} {v : Value} (hc : w.cell? a = some v) (hl : L a.block = 0) : w'.cell? a = some v := h.cell hc (.inl hl)
theorem Shr.cell {L L' : Lab} {w w' : World} (h : Shr L w L' w') {a : Addr} {v : Value} (hc : w.cell? a = some v) (hl : L a.block = 0 ∨ 8 ≤ L a.block) : w'.cell? a = some v :=
  (World.cell?_of_block (h.block a.block (cell_lt hc) hl)).trans hc
theorem Did.cell0 {t : Nat} {L L' : Lab} {w w' : World} (h : Did t L w L' w') {a : Addr} {v : Value} (hc : w.cell? a = some v) (hl : L a.block = 0) : w'.cell? a = some v :=
  (World.cell?_of_block (h.block a.block (cell_lt hc) (.inl hl))).trans hc
theorem bcell {B : Nat} {w w' : World} (h : Below B w w') {a : Addr} {v : Value} (hc : w.cell? a = some v) (hB : a.block < B) : w'.cell? a = some v := (h.cell hB).trans hc
theorem below_cell {w w' : World} (h : Below w.heap.size w w') {a : Addr} {v : Value} (hc : w.cell? a = some v) : w'.cell? a = some v := bcell h hc (cell_lt hc)

theorem PlanAt.mono {w w' : World} {p : Nat} {c : Cf} (h : PlanAt w p c) (hw : w'.heap[p]? = w.heap[p]?) : PlanAt w' p c := by
  have e : ∀ j, w'.cell? ⟨p, j, none⟩ = w.cell? ⟨p, j, none⟩ := fun j => World.cell?_of_block (a := ⟨p, j, none⟩) hw
  constructor <;> (rw [e]; first | exact h.c0 | exact h.c1 | exact h.c2 | exact h.c3 | exact h.c4 | exact h.c5 | exact h.c6 | exact h.c7 | exact h.c8 | exact h.c9 | exact h.c10 | exact h.c11 | exact h.c12 | exact h.c13 | exact h.c14 | exact h.c15 | exact h.c16 | exact h.c17)

theorem frozen_lt {w : World} {a : Addr} {v : Value} (hc : w.cell? a = some v) : a.block < w.heap.size := cell_lt hc
theorem ArenaAt.below {w w' : World} {a c : Nat} {S : St} (h : ArenaAt w a c S) (ha : w'.heap[a]? = w.heap[a]?) (hc : w'.heap[c]? = w.heap[c]?) : ArenaAt w' a c S where
  a0 := (World.cell?_of_block (a := ⟨a, 0, none⟩) ha).trans h.a0
  a1 := (World.cell?_of_block (a := ⟨a, 1, none⟩) ha).trans h.a1
  af := (World.frozen?_of_block (a := ⟨a, 1, none⟩) ha).trans h.af
  c0 := fun i hi => (World.cell?_of_block (a := ⟨c, i, none⟩) hc).trans (h.c0 i hi)
  cf := fun i hi => (World.frozen?_of_block (a := ⟨c, i, none⟩) hc).trans (h.cf i hi)
  ne := h.ne
  n2 := h.n2
  m64 := h.m64
  cnt2 := h.cnt2
theorem ownsRow_block {w w' : World} {base : Nat} {e : TypeId} {size : Nat} {v : Value} {n : Nat} {xs : List Value} (h : w.ownsRow base e size v n xs) (hb : ∀ g, v.ownBlock = some g → w'.heap[g]? = w.heap[g]?) : w'.ownsRow base e size v n xs := by
  refine ⟨h.1, ?_⟩
  rcases h.2 with hn | ⟨g, cap, cur, rfl, hbg, hg, rest⟩
  · exact .inl hn
  · exact .inr ⟨g, cap, cur, rfl, hbg, (hb g rfl).trans hg, rest⟩
theorem LogAt.below {w w' : World} {k : Nat} {L L' : Lab} {l : List Ev} (h : LogAt w k L l) (hk : w'.heap[k]? = w.heap[k]?) (hb : ∀ g, L g = 4 → g < w.heap.size → w'.heap[g]? = w.heap[g]? ∧ L' g = L g) : LogAt w' k L' l := by
  obtain ⟨kf, lv, h1, h2, h3⟩ := h
  have hlt : ∀ g, lv.ownBlock = some g → g < w.heap.size := fun g hg => (h2.lt g hg).2
  exact ⟨(World.frozen?_of_block (a := ⟨k, 2, none⟩) hk).trans kf, lv, (World.cell?_of_block (a := ⟨k, 2, none⟩) hk).trans h1, ownsRow_block h2 (fun g hg => (hb g (h3 g hg) (hlt g hg)).1), fun g hg => ((hb g (h3 g hg) (hlt g hg)).2).trans (h3 g hg)⟩

/-- What only makes new memory leaves all as it is. -/
theorem Good.below {E : G} {L : Lab} {S : St} {w w' : World} (h : Good E L S w) (hb : Below w.heap.size w w') : Good E L S w' where
  ok := h.ok
  k0 := below_cell hb h.k0
  k1 := below_cell hb h.k1
  pl := h.pl.mono (hb.block _ (cell_lt h.pl.c0))
  ar := h.ar.below (hb.block _ (cell_lt h.ar.a0)) (by
    by_cases hc : E.c < w.heap.size
    · exact hb.block _ hc
    · have := h.new E.c (by omega); have := h.lc; omega)
  lg := h.lg.below (hb.block _ (cell_lt h.k0)) (fun g _ hg => ⟨hb.block g hg, rfl⟩)
  rg := fun b v hv => ⟨below_cell hb (h.rg b v hv).1, (hb.frozen (p := ⟨b, 0, none⟩) (cell_lt (h.rg b v hv).1)).trans (h.rg b v hv).2.1, (h.rg b v hv).2.2⟩
  lk := h.lk
  lp := h.lp
  la := h.la
  lc := h.lc
  new := fun b hb' => h.new b (Nat.le_trans hb.size hb')
end Go.Proofs.Ytlbjjooiiikmjaa
