/- The lists of what there is. -/
import Derived.Test.YtgemjjpmoejgdaaGreatJoino
import Derived.Deep.Cut
import Derived.Deep.MidRow
import Derived.Deep.Heap
import Derived.Great.BuildSlice
import Derived.Laws.CopyOwn
import Derived.StillTail
import Derived.Deep.Quiet
namespace Go.Proofs.YtgemjjpmoejgdaaGreat
open Go.RowKit
set_option maxRecDepth 100000
set_option linter.unusedVariables false

theorem nodup_length : ∀ (n : Nat) (xs : List Nat), xs.Nodup → (∀ x ∈ xs, x < n) → xs.length ≤ n
  | 0, xs, _, h => by
    cases xs with
    | nil => exact Nat.le_refl _
    | cons x xs => exact absurd (h x (List.mem_cons_self ..)) (Nat.not_lt_zero _)
  | n + 1, xs, hn, h => by
    have h1 := nodup_length n (xs.erase n) (hn.erase n) (fun x hx => by
      have h2 := h x (List.mem_of_mem_erase hx)
      have h3 : x ≠ n := fun e => by subst e; exact (List.Nodup.not_mem_erase hn) hx
      omega)
    have h4 := List.length_erase (a := n) (l := xs)
    split at h4 <;> omega
section
variable {E : G} {L : Lab} {S : St} {w : World} {fn ft : List Nat} {bx : Nat → List Nat}
theorem Cf.Ok.sizes {c : Cf} (hok : c.Ok) : c.nodes ≤ c.size ∧ c.tickets ≤ c.size ∧ c.nodes ≤ 1000000 ∧ c.tickets ≤ 1000000 ∧ c.size = c.size := by
  have := hok.n2; have := hok.t2
  have h1 : c.ticketsAt = c.nodesAt + 4 * c.nodes := rfl
  have h2 : c.connsAt = c.ticketsAt + 3 * c.tickets := rfl
  have h3 : c.size = c.connsAt + c.conns := rfl
  omega
def ints (xs : List Nat) : List Value := xs.map fun (x : Nat) => Value.int .i64 (x : Int)
theorem nodes_list (hg : Good E L S w) (hn : S.n = E.cf.size) (hs : Shop E.cf S.m fn ft bx) :
    Calls Tryz.prog 58 #[nodesVal E] w fun e w' => ∃ v, e = .returned v ∧ w'.ownsRow w.heap.size 3 1 v fn.length (ints fn) ∧ Below w.heap.size w w' := by
  have hz := hg.ok.sizes
  have n9 := hg.ok.nodesAt_le
  have hsz := hg.ok.size_le
  refine stack_list hg 155 (fun _ _ => by kernel_rfl) 1 (by omega) (nlk E.cf) fn (fun x hx w hp => ?_) (hs.nodes.chain hs.nlt (fun x hx => ?_) hz.2.2.1) ?_
  · have h := plan_NodeLink hg.ok E.p x w hp
    rwa [nodeLink_at E.cf x (hs.nlt x hx)] at h
  · have := nlk_lt hx
    have : E.cf.ticketsAt ≤ E.cf.size := by unfold Cf.size Cf.connsAt; omega
    omega
  · have := nodup_length _ fn hs.nnd hs.nlt
    omega
theorem tickets_list (hg : Good E L S w) (hn : S.n = E.cf.size) (hs : Shop E.cf S.m fn ft bx) :
    Calls Tryz.prog 58 #[ticketsVal E] w fun e w' => ∃ v, e = .returned v ∧ w'.ownsRow w.heap.size 3 1 v ft.length (ints ft) ∧ Below w.heap.size w w' := by
  have hz := hg.ok.sizes
  have n9 := hg.ok.nodesAt_le
  have hsz := hg.ok.size_le
  refine stack_list hg 100 (fun _ _ => by kernel_rfl) 2 (by omega) (tlk E.cf) ft (fun x hx w hp => ?_) (hs.tickets.chain hs.tlt (fun x hx => ?_) hz.2.2.2.1) ?_
  · have h := plan_TicketLink hg.ok E.p x w hp
    rwa [ticketLink_at E.cf x (hs.tlt x hx)] at h
  · have := tlk_lt hx
    omega
  · have := nodup_length _ ft hs.tnd hs.tlt
    omega
theorem boxed_list (hg : Good E L S w) (hn : S.n = E.cf.size) (hs : Shop E.cf S.m fn ft bx) {s : Nat} (hsl : s < E.cf.workers) :
    Calls Tryz.prog 58 #[.agg #[.pointer (some ⟨E.a, 0, none⟩), .int .i64 (inb E.cf s : Nat), .func (.func 100) #[.pointer (some ⟨E.p, 0, none⟩)] #[]]] w fun e w' => ∃ v, e = .returned v ∧ w'.ownsRow w.heap.size 3 1 v (bx s).length (ints (bx s)) ∧ Below w.heap.size w w' := by
  have hz := hg.ok.sizes
  have n9 := hg.ok.nodesAt_le
  have hib := inb_bd hsl
  have hts : E.cf.nodesAt ≤ E.cf.size := by unfold Cf.size Cf.connsAt Cf.ticketsAt; omega
  refine stack_list hg 100 (fun _ _ => by kernel_rfl) (inb E.cf s) (by omega) (tlk E.cf) (bx s) (fun x hx w hp => ?_) ((hs.boxes s hsl).chain (hs.blt s hsl) (fun x hx => ?_) hz.2.2.2.1) ?_
  · have h := plan_TicketLink hg.ok E.p x w hp
    rwa [ticketLink_at E.cf x (hs.blt s hsl x hx)] at h
  · have := tlk_lt hx
    omega
  · have := nodup_length _ (bx s) (hs.bnd s hsl) (hs.blt s hsl)
    omega
set_option maxHeartbeats 2000000 in
theorem box_list (hg : Good E L S w) (hn : S.n = E.cf.size) (hs : Shop E.cf S.m fn ft bx) {s : Nat} (hsl : s < E.cf.workers) :
    Calls Tryz.prog 36 #[boxVal E s] w fun e w' => ∃ v, e = .returned v ∧ w'.ownsRow w.heap.size 3 1 v (bx s).length (ints (bx s)) ∧ Below w.heap.size w w' := by
  have HL := Go.Lib.hid (fun W (hW : Below w.heap.size w W) => boxed_list (hg.below hW) hn hs hsl)
  have hal : ∀ o, Below w.heap.size w (w.alloc o) := fun o => (Below.refl _ _).alloc (Nat.le_refl _) _
  have HAL := Go.Lib.hid hal
  unfold boxVal linkVal
  rw [inb_at hsl]
  generalize ints (bx s) = xs at *
  generalize (bx s).length = nn at *
  generalize inb E.cf s = k at *
  clear hg hal hn hs hsl
  go_enter Tryz.func36, Tryz.ntmps36
  go_wp2_with fail
  refine (HL.out _ (HAL.out _)).mono ?_
  rintro e w2 ⟨v, rfl, hown, hb2⟩
  obtain ⟨a, cap, rfl⟩ := own_form hown
  have HB2 := Go.Lib.hid ((HAL.out _).trans (hb2.mono (HAL.out _).size))
  have HO := Go.Lib.hid (own_mono hown (HAL.out (.cells #[.pointer (some ⟨E.a, 0, none⟩), .int .i64 k, .func (.func 100) #[.pointer (some ⟨E.p, 0, none⟩)] #[], .func (.func 113) #[.pointer (some ⟨E.k, 0, none⟩)] #[], .pointer (some ⟨E.a, 0, none⟩), .int .i64 2, .func (.func 100) #[.pointer (some ⟨E.p, 0, none⟩)] #[]] 68)).size)
  clear hown hb2
  go_wp2
  go_ret
  exact ⟨_, rfl, HO.out, HB2.out⟩
end
end Go.Proofs.YtgemjjpmoejgdaaGreat
/- The document's shop in memory; knellref04.Up; knellref16.Shard, Due, Alive. -/
namespace Go.Proofs.YtgemjjpmoejgdaaGreat
open Go.RowKit
set_option maxRecDepth 100000
set_option linter.unusedVariables false

theorem up_law (x m : Int) (hm : 0 < m) : (x + m - 1) / m * m = if x % m = 0 then x else x + m - x % m := by
  have h1 : m * (x / m) + x % m = x := Int.mul_ediv_add_emod x m
  have h2 := Int.emod_nonneg x (show m ≠ 0 by omega)
  have h3 := Int.emod_lt_of_pos x hm
  generalize x / m = q at *
  generalize x % m = r at *
  split
  · rename_i h
    subst h
    have e : x + m - 1 = (m - 1) + m * q := by omega
    rw [e, Int.add_mul_ediv_left _ _ (by omega), Int.ediv_eq_zero_of_lt (by omega) (by omega), Int.zero_add, Int.mul_comm]
    omega
  · have e : x + m - 1 = (r - 1) + m * (q + 1) := by rw [Int.mul_add]; omega
    rw [e, Int.add_mul_ediv_left _ _ (by omega), Int.ediv_eq_zero_of_lt (by omega) (by omega), Int.zero_add, Int.mul_comm, Int.mul_add]
    omega

set_option maxHeartbeats 400000 in
theorem ref_Clock (t : Int) (w : World) :
    Calls Tryz.prog 236 #[.int .i64 t] w fun e w' => e = .returned (.int .i64 (clockI t)) ∧ w' = w := by
  unfold clockI
  by_cases h0 : t < 0
  · have e : min (max t 0) 1073741823 = 0 := by omega
    rw [e]
    have q0 : decide (t < 0) = true := by simp; omega
    go_enter Tryz.func236, Tryz.ntmps236
    go_wp2
    go_ret
    exact ⟨rfl, rfl⟩
  · by_cases h1 : t ≤ 1073741823
    · have e : min (max t 0) 1073741823 = t := by omega
      rw [e]
      have q0 : decide (t < 0) = false := by simp; omega
      have q1 : decide (1073741823 < t) = false := by simp; omega
      go_enter Tryz.func236, Tryz.ntmps236
      go_wp2
      go_ret
      exact ⟨rfl, rfl⟩
    · have e : min (max t 0) 1073741823 = 1073741823 := by omega
      rw [e]
      have q0 : decide (t < 0) = false := by simp; omega
      have q1 : decide (1073741823 < t) = true := by simp; omega
      go_enter Tryz.func236, Tryz.ntmps236
      go_wp2
      go_ret
      exact ⟨rfl, rfl⟩
set_option maxHeartbeats 400000 in
theorem ref_Up (d s : Int) (w : World) :
    Calls Tryz.prog 181 #[.int .i64 d, .int .i64 s] w fun e w' => e = .returned (.int .i64 (upI d s)) ∧ w' = w := by
  have h1 := clockI_bd d
  have h2 := clockI_bd s
  have HX := Go.Lib.hid (ref_Clock d)
  have HY := Go.Lib.hid (ref_Clock s)
  have hu : upI d s = if clockI d % (clockI s + 1) = 0 then clockI d else clockI d + (clockI s + 1) - clockI d % (clockI s + 1) := up_law _ _ (by omega)
  rw [hu]
  clear hu
  generalize clockI d = x at *
  generalize clockI s = y at *
  have h3 := Int.emod_nonneg x (show y + 1 ≠ 0 by omega)
  have h4 := Int.emod_lt_of_pos x (show 0 < y + 1 by omega)
  have ht : x.tmod (y + 1) = x % (y + 1) := Int.tmod_eq_emod_of_nonneg h1.1
  have hw1 : IntKind.i64.wrap (y + 1) = y + 1 := IntWalk.i64_in _ (by omega)
  have hw2 : IntKind.i64.wrap (x % (y + 1)) = x % (y + 1) := IntWalk.i64_in _ (by omega)
  have hw3 : IntKind.i64.wrap (x + (y + 1)) = x + (y + 1) := IntWalk.i64_in _ (by omega)
  have hw4 : IntKind.i64.wrap (x + (y + 1) - x % (y + 1)) = x + (y + 1) - x % (y + 1) := IntWalk.i64_in _ (by omega)
  have hne : ((y + 1 : Int) == 0) = false := by simp; omega
  obtain ⟨a1, a2⟩ := h1
  obtain ⟨b1, b2⟩ := h2
  by_cases h0 : x % (y + 1) = 0
  · rw [if_pos h0]
    have q0 : decide (x % (y + 1) = 0) = true := by simp; omega
    go_enter Tryz.func181, Tryz.ntmps181
    go_wp2_with fail
    refine (HX.out _).mono ?_
    rintro e w' ⟨rfl, rfl⟩
    go_wp2_with fail
    refine (HY.out _).mono ?_
    rintro e w' ⟨rfl, rfl⟩
    go_wp2
    go_ret
    exact ⟨rfl, rfl⟩
  · rw [if_neg h0]
    have q0 : decide (x % (y + 1) = 0) = false := by simp; omega
    go_enter Tryz.func181, Tryz.ntmps181
    go_wp2_with fail
    refine (HX.out _).mono ?_
    rintro e w' ⟨rfl, rfl⟩
    go_wp2_with fail
    refine (HY.out _).mono ?_
    rintro e w' ⟨rfl, rfl⟩
    go_wp2
    go_ret
    exact ⟨rfl, rfl⟩

/-- A slice whose elements are rows of cells. -/
def RowsAt (w : World) (k : Nat) (v : Value) (rows : List (List Value)) : Prop := ∃ p c, v = .slice p rows.length c ∧ ∀ (i : Nat) (r : List Value), rows[i]? = some r → ∃ g off, p = some ⟨g, off, none⟩ ∧ ∀ (j : Nat) (u : Value), r[j]? = some u → w.cell? ⟨g, off + i * k + j, none⟩ = some u
theorem RowsAt.below {w w' : World} {k : Nat} {v : Value} {rows : List (List Value)} (h : RowsAt w k v rows) (hb : Below w.heap.size w w') : RowsAt w' k v rows := by
  obtain ⟨p, c, rfl, h1⟩ := h
  refine ⟨p, c, rfl, fun i r hi => ?_⟩
  obtain ⟨g, off, rfl, h2⟩ := h1 i r hi
  exact ⟨g, off, rfl, fun j u hj => below_cell hb (h2 j u hj)⟩
theorem flat_at {k : Nat} : ∀ (rows : List (List Value)), (∀ r ∈ rows, r.length = k) → ∀ (i : Nat) (r : List Value), rows[i]? = some r → ∀ j, j < k → rows.flatten[i * k + j]? = r[j]?
  | [], _, i, r, hi, j, hj => by cases hi
  | r0 :: rs, hk, i, r, hi, j, hj => by
    have h0 := hk r0 (List.mem_cons_self ..)
    rw [List.flatten_cons]
    cases i with
    | zero =>
      cases hi
      rw [Nat.zero_mul, Nat.zero_add, List.getElem?_append_left (by omega)]
    | succ i =>
      rw [List.getElem?_append_right (by rw [h0, Nat.succ_mul]; omega)]
      have := flat_at rs (fun r hr => hk r (List.mem_cons_of_mem _ hr)) i r hi j hj
      rw [← this, h0]
      congr 1
      rw [Nat.succ_mul]
      omega
theorem flat_len {k : Nat} : ∀ (rows : List (List Value)), (∀ r ∈ rows, r.length = k) → rows.flatten.length = rows.length * k
  | [], _ => by simp
  | r0 :: rs, hk => by
    rw [List.flatten_cons, List.length_append, flat_len rs (fun r hr => hk r (List.mem_cons_of_mem _ hr)), hk r0 (List.mem_cons_self ..), List.length_cons, Nat.succ_mul]
    omega
/-- The cells of a slice in a row. -/
theorem RowsAt.flat {w : World} {k g off n c : Nat} {rows : List (List Value)} (h : RowsAt w k (.slice (some ⟨g, off, none⟩) n c) rows) (hk : ∀ r ∈ rows, r.length = k) (hk0 : 0 < k) : ∀ (j : Nat) (u : Value), rows.flatten[j]? = some u → w.cell? ⟨g, off + j, none⟩ = some u := by
  intro j u hj
  obtain ⟨p, c', e, h1⟩ := h
  injection e with e1 e2 e3
  subst e1
  have hlt : j < rows.length * k := by
    have := (List.getElem?_eq_some_iff.1 hj).1
    rw [flat_len rows hk] at this
    exact this
  have hdiv : j / k < rows.length := Nat.div_lt_of_lt_mul (by rw [Nat.mul_comm]; exact hlt)
  have hg : rows[j / k]? = some rows[j / k] := List.getElem?_eq_getElem hdiv
  obtain ⟨g', off', e4, h2⟩ := h1 (j / k) _ hg
  injection e4 with e4
  injection e4 with e5 e6 e7
  subst e5 e6
  have hm : j % k < k := Nat.mod_lt _ hk0
  have hf := flat_at rows hk (j / k) _ hg (j % k) hm
  have hjj : j / k * k + j % k = j := by rw [Nat.mul_comm]; exact Nat.div_add_mod j k
  rw [hjj, hj] at hf
  have := h2 (j % k) u hf.symm
  rw [Nat.add_assoc, hjj] at this
  exact this
theorem RowsAt.own {w : World} {base k : Nat} {e : TypeId} {v : Value} {rows : List (List Value)} (h : w.ownsRow base e k v rows.length rows.flatten) (hk : ∀ r ∈ rows, r.length = k) : RowsAt w k v rows := by
  obtain ⟨a, cap, rfl⟩ := own_form h
  rcases h.2 with ⟨e0, hn⟩ | ⟨g, cap', cur, e0, _, hb, h1, h2, h3, h4⟩
  · injection e0 with e1 e2 e3
    subst e1
    refine ⟨none, cap, by rw [hn], fun i d hi => ?_⟩
    have : rows = [] := List.length_eq_zero_iff.1 hn
    subst this
    cases hi
  · injection e0 with e1 e2 e3
    subst e1
    refine ⟨some ⟨g, 0, none⟩, cap, by subst e3; rfl, fun i r hi => ⟨g, 0, rfl, fun j u hj => ?_⟩⟩
    have hil : i < rows.length := (List.getElem?_eq_some_iff.1 hi).1
    have hr := hk r (List.mem_of_getElem? hi)
    have hjl : j < k := by have := (List.getElem?_eq_some_iff.1 hj).1; omega
    have hf := flat_at rows hk i r hi j hjl
    rw [hj, ← h4, List.getElem?_take] at hf
    split at hf
    · rw [Nat.zero_add, cell_of_row _ _ _ _ _ _ hb]
      simpa using hf
    · cases hf
def NodeR.cells (n : NodeR) : List Value := [.int .i64 (n.gen : Int), .int .i64 (n.time : Int), .int .i64 (n.status : Int), .int .i64 (n.user : Int), .int .i64 (n.hgen : Int), .int .i64 (n.hver : Int), .int .i64 (n.hshard : Int)]
def TickR.cells (t : TickR) : List Value := [.int .i64 (t.node : Int), .int .i64 (t.gen : Int), .int .i64 (t.ver : Int), .int .i64 (t.due : Int)]
def NodesAt (w : World) (v : Value) (ns : List NodeR) : Prop := RowsAt w 7 v (ns.map NodeR.cells)
def TicksAt (w : World) (v : Value) (ts : List TickR) : Prop := RowsAt w 4 v (ts.map TickR.cells)
def FreeAt (w : World) (v : Value) (xs : List Nat) : Prop := RowsAt w 1 v (xs.map fun (x : Nat) => [Value.int .i64 (x : Int)])
def BoxesAt (w : World) (v : Value) (bs : List (List TickR)) : Prop := ∃ us : List Value, us.length = bs.length ∧ RowsAt w 1 v (us.map fun u => [u]) ∧ ∀ (i : Nat) (u : Value) (b : List TickR), us[i]? = some u → bs[i]? = some b → TicksAt w u b
theorem NodesAt.below {w w' : World} {v : Value} {ns : List NodeR} (h : NodesAt w v ns) (hb : Below w.heap.size w w') : NodesAt w' v ns := RowsAt.below h hb
theorem TicksAt.below {w w' : World} {v : Value} {ns : List TickR} (h : TicksAt w v ns) (hb : Below w.heap.size w w') : TicksAt w' v ns := RowsAt.below h hb
theorem FreeAt.below {w w' : World} {v : Value} {ns : List Nat} (h : FreeAt w v ns) (hb : Below w.heap.size w w') : FreeAt w' v ns := RowsAt.below h hb
theorem BoxesAt.below {w w' : World} {v : Value} {bs : List (List TickR)} (h : BoxesAt w v bs) (hb : Below w.heap.size w w') : BoxesAt w' v bs := by
  obtain ⟨us, h1, h2, h3⟩ := h
  exact ⟨us, h1, h2.below hb, fun i u b hu hi => (h3 i u b hu hi).below hb⟩
/-- The cells of one node, at its place. -/
theorem NodesAt.at {w : World} {v : Value} {ns : List NodeR} (h : NodesAt w v ns) {i : Nat} (hi : i < ns.length) : ∃ g off c, v = .slice (some ⟨g, off, none⟩) ns.length c ∧ ∀ j, j < 7 → w.cell? ⟨g, off + i * 7 + j, none⟩ = (ns.getD i default).cells[j]? := by
  obtain ⟨p, c, rfl, h1⟩ := h
  have hg : (ns.map NodeR.cells)[i]? = some ((ns.getD i default).cells) := by
    rw [List.getElem?_map, List.getElem?_eq_getElem hi, List.getD_eq_getElem?_getD, List.getElem?_eq_getElem hi]
    rfl
  obtain ⟨g, off, rfl, h2⟩ := h1 i _ hg
  refine ⟨g, off, c, by rw [List.length_map], fun j hj => ?_⟩
  have : (ns.getD i default).cells[j]? = some ((ns.getD i default).cells[j]) := List.getElem?_eq_getElem hj
  rw [this]
  exact h2 j _ this
theorem deadR_at {N : List NodeR} {t : TickR} (h : t.node < N.length) : deadR N t = !(decide ((N.getD t.node default).status = 1) && decide ((N.getD t.node default).gen = t.gen)) := by
  have hg : N[t.node]? = some (N.getD t.node default) := by
    rw [List.getD_eq_getElem?_getD, List.getElem?_eq_getElem h]
    rfl
  unfold deadR
  rw [hg, Option.any_some]
  congr 1
  rw [Bool.decide_and]

set_option maxHeartbeats 1000000 in
theorem ref16_Shard (x : Nat → Int) (cl tk : Int) (vf vn vw : Value) (pb : Option Addr) (nb cb : Nat) (s : Int) (w : World) :
    Calls Tryz.prog 83 #[.agg #[.int .i64 (x 0), .int .i64 (x 1), .int .i64 (x 2), .int .i64 (x 3), .int .i64 (x 4), .int .i64 (x 5), .int .i64 (x 6), .int .i64 (x 7), .int .i64 (x 8), .int .i64 (x 9), .int .i64 (x 10), .int .i64 (x 11), .int .i64 (x 12), .int .i64 cl, vf, .int .i64 tk, vn, (.slice pb nb cb), vw], .int .i64 s] w fun e w' => e = .returned (.bool (decide (0 ≤ s ∧ s < (nb : Int)))) ∧ Below w.heap.size w w' := by
  have HB := Go.Lib.hid (show Below w.heap.size w (w.alloc (.cells #[.int .i64 (x 0), .int .i64 (x 1), .int .i64 (x 2), .int .i64 (x 3), .int .i64 (x 4), .int .i64 (x 5), .int .i64 (x 6), .int .i64 (x 7), .int .i64 (x 8), .int .i64 (x 9), .int .i64 (x 10), .int .i64 (x 11), .int .i64 (x 12), .int .i64 cl, vf, .int .i64 tk, vn, .slice pb nb cb, vw] 33)) from (Below.refl _ _).alloc (Nat.le_refl _) _)
  by_cases h0 : 0 ≤ s
  · by_cases h1 : s < (nb : Int)
    · have e : decide (0 ≤ s ∧ s < (nb : Int)) = true := by simp; omega
      rw [e]
      clear e
      go_enter Tryz.func83, Tryz.ntmps83
      go_wp2
      go_ret
      exact ⟨rfl, HB.out⟩
    · have e : decide (0 ≤ s ∧ s < (nb : Int)) = false := by simp; omega
      rw [e]
      clear e
      have h1' : (s < (nb : Int)) = False := by simp; omega
      go_enter Tryz.func83, Tryz.ntmps83
      go_wp2
      go_ret
      exact ⟨rfl, HB.out⟩
  · have e : decide (0 ≤ s ∧ s < (nb : Int)) = false := by simp; omega
    rw [e]
    clear e
    have h0' : (0 ≤ s) = False := by simp; omega
    go_enter Tryz.func83, Tryz.ntmps83
    go_wp2
    go_ret
    exact ⟨rfl, HB.out⟩
set_option maxHeartbeats 1000000 in
theorem ref16_Due (x : Nat → Int) (cl tk : Int) (vf vn vb vw : Value) (d : Int) (w : World) :
    Calls Tryz.prog 86 #[.agg #[.int .i64 (x 0), .int .i64 (x 1), .int .i64 (x 2), .int .i64 (x 3), .int .i64 (x 4), .int .i64 (x 5), .int .i64 (x 6), .int .i64 (x 7), .int .i64 (x 8), .int .i64 (x 9), .int .i64 (x 10), .int .i64 (x 11), .int .i64 (x 12), .int .i64 cl, vf, .int .i64 tk, vn, vb, vw], .int .i64 d] w fun e w' => e = .returned (.int .i64 (upI d (x 5))) ∧ Below w.heap.size w w' := by
  have HB := Go.Lib.hid (show Below w.heap.size w (w.alloc (.cells #[.int .i64 (x 0), .int .i64 (x 1), .int .i64 (x 2), .int .i64 (x 3), .int .i64 (x 4), .int .i64 (x 5), .int .i64 (x 6), .int .i64 (x 7), .int .i64 (x 8), .int .i64 (x 9), .int .i64 (x 10), .int .i64 (x 11), .int .i64 (x 12), .int .i64 cl, vf, .int .i64 tk, vn, vb, vw] 33)) from (Below.refl _ _).alloc (Nat.le_refl _) _)
  have HU := Go.Lib.hid (ref_Up d (x 5))
  generalize upI d (x 5) = u at *
  go_enter Tryz.func86, Tryz.ntmps86
  go_wp2_with fail
  refine (HU.out _).mono ?_
  rintro e w1 ⟨rfl, rfl⟩
  go_wp2
  go_ret
  exact ⟨rfl, HB.out⟩
set_option maxHeartbeats 2000000 in
theorem ref16_Alive (x : Nat → Int) (cl tk : Int) (vf vn vb vw : Value) (N : List NodeR) (t : TickR) (w : World) (hn : NodesAt w vn N) (ht : t.node < N.length) :
    Calls Tryz.prog 180 #[.agg #[.int .i64 (x 0), .int .i64 (x 1), .int .i64 (x 2), .int .i64 (x 3), .int .i64 (x 4), .int .i64 (x 5), .int .i64 (x 6), .int .i64 (x 7), .int .i64 (x 8), .int .i64 (x 9), .int .i64 (x 10), .int .i64 (x 11), .int .i64 (x 12), .int .i64 cl, vf, .int .i64 tk, vn, vb, vw], .agg #[.int .i64 (t.node : Int), .int .i64 (t.gen : Int), .int .i64 (t.ver : Int), .int .i64 (t.due : Int)]] w fun e w' => e = .returned (.bool (!deadR N t)) ∧ Below w.heap.size w w' := by
  obtain ⟨g, off, c, rfl, hc⟩ := hn.at ht
  have hb : Below w.heap.size w ((w.alloc (.cells #[.int .i64 (x 0), .int .i64 (x 1), .int .i64 (x 2), .int .i64 (x 3), .int .i64 (x 4), .int .i64 (x 5), .int .i64 (x 6), .int .i64 (x 7), .int .i64 (x 8), .int .i64 (x 9), .int .i64 (x 10), .int .i64 (x 11), .int .i64 (x 12), .int .i64 cl, vf, .int .i64 tk, .slice (some ⟨g, off, none⟩) N.length c, vb, vw] 33)).alloc (.cells #[.int .i64 (t.node : Int), .int .i64 (t.gen : Int), .int .i64 (t.ver : Int), .int .i64 (t.due : Int)] 140)) := ((Below.refl _ _).alloc (Nat.le_refl _) _).alloc (by simp) _
  rw [deadR_at ht, Bool.not_not]
  generalize N.getD t.node default = nd at *
  have b0 : ((w.alloc (.cells #[.int .i64 (x 0), .int .i64 (x 1), .int .i64 (x 2), .int .i64 (x 3), .int .i64 (x 4), .int .i64 (x 5), .int .i64 (x 6), .int .i64 (x 7), .int .i64 (x 8), .int .i64 (x 9), .int .i64 (x 10), .int .i64 (x 11), .int .i64 (x 12), .int .i64 cl, vf, .int .i64 tk, .slice (some ⟨g, off, none⟩) N.length c, vb, vw] 33)).alloc (.cells #[.int .i64 (t.node : Int), .int .i64 (t.gen : Int), .int .i64 (t.ver : Int), .int .i64 (t.due : Int)] 140)).cell? ⟨g, off + t.node * 7, none⟩ = some (.int .i64 (nd.gen : Int)) := below_cell hb (hc 0 (by decide))
  have b1 : ((w.alloc (.cells #[.int .i64 (x 0), .int .i64 (x 1), .int .i64 (x 2), .int .i64 (x 3), .int .i64 (x 4), .int .i64 (x 5), .int .i64 (x 6), .int .i64 (x 7), .int .i64 (x 8), .int .i64 (x 9), .int .i64 (x 10), .int .i64 (x 11), .int .i64 (x 12), .int .i64 cl, vf, .int .i64 tk, .slice (some ⟨g, off, none⟩) N.length c, vb, vw] 33)).alloc (.cells #[.int .i64 (t.node : Int), .int .i64 (t.gen : Int), .int .i64 (t.ver : Int), .int .i64 (t.due : Int)] 140)).cell? ⟨g, off + t.node * 7 + 1, none⟩ = some (.int .i64 (nd.time : Int)) := below_cell hb (hc 1 (by decide))
  have b2 : ((w.alloc (.cells #[.int .i64 (x 0), .int .i64 (x 1), .int .i64 (x 2), .int .i64 (x 3), .int .i64 (x 4), .int .i64 (x 5), .int .i64 (x 6), .int .i64 (x 7), .int .i64 (x 8), .int .i64 (x 9), .int .i64 (x 10), .int .i64 (x 11), .int .i64 (x 12), .int .i64 cl, vf, .int .i64 tk, .slice (some ⟨g, off, none⟩) N.length c, vb, vw] 33)).alloc (.cells #[.int .i64 (t.node : Int), .int .i64 (t.gen : Int), .int .i64 (t.ver : Int), .int .i64 (t.due : Int)] 140)).cell? ⟨g, off + t.node * 7 + 2, none⟩ = some (.int .i64 (nd.status : Int)) := below_cell hb (hc 2 (by decide))
  have b3 : ((w.alloc (.cells #[.int .i64 (x 0), .int .i64 (x 1), .int .i64 (x 2), .int .i64 (x 3), .int .i64 (x 4), .int .i64 (x 5), .int .i64 (x 6), .int .i64 (x 7), .int .i64 (x 8), .int .i64 (x 9), .int .i64 (x 10), .int .i64 (x 11), .int .i64 (x 12), .int .i64 cl, vf, .int .i64 tk, .slice (some ⟨g, off, none⟩) N.length c, vb, vw] 33)).alloc (.cells #[.int .i64 (t.node : Int), .int .i64 (t.gen : Int), .int .i64 (t.ver : Int), .int .i64 (t.due : Int)] 140)).cell? ⟨g, off + t.node * 7 + 3, none⟩ = some (.int .i64 (nd.user : Int)) := below_cell hb (hc 3 (by decide))
  have b4 : ((w.alloc (.cells #[.int .i64 (x 0), .int .i64 (x 1), .int .i64 (x 2), .int .i64 (x 3), .int .i64 (x 4), .int .i64 (x 5), .int .i64 (x 6), .int .i64 (x 7), .int .i64 (x 8), .int .i64 (x 9), .int .i64 (x 10), .int .i64 (x 11), .int .i64 (x 12), .int .i64 cl, vf, .int .i64 tk, .slice (some ⟨g, off, none⟩) N.length c, vb, vw] 33)).alloc (.cells #[.int .i64 (t.node : Int), .int .i64 (t.gen : Int), .int .i64 (t.ver : Int), .int .i64 (t.due : Int)] 140)).cell? ⟨g, off + t.node * 7 + 4, none⟩ = some (.int .i64 (nd.hgen : Int)) := below_cell hb (hc 4 (by decide))
  have b5 : ((w.alloc (.cells #[.int .i64 (x 0), .int .i64 (x 1), .int .i64 (x 2), .int .i64 (x 3), .int .i64 (x 4), .int .i64 (x 5), .int .i64 (x 6), .int .i64 (x 7), .int .i64 (x 8), .int .i64 (x 9), .int .i64 (x 10), .int .i64 (x 11), .int .i64 (x 12), .int .i64 cl, vf, .int .i64 tk, .slice (some ⟨g, off, none⟩) N.length c, vb, vw] 33)).alloc (.cells #[.int .i64 (t.node : Int), .int .i64 (t.gen : Int), .int .i64 (t.ver : Int), .int .i64 (t.due : Int)] 140)).cell? ⟨g, off + t.node * 7 + 5, none⟩ = some (.int .i64 (nd.hver : Int)) := below_cell hb (hc 5 (by decide))
  have b6 : ((w.alloc (.cells #[.int .i64 (x 0), .int .i64 (x 1), .int .i64 (x 2), .int .i64 (x 3), .int .i64 (x 4), .int .i64 (x 5), .int .i64 (x 6), .int .i64 (x 7), .int .i64 (x 8), .int .i64 (x 9), .int .i64 (x 10), .int .i64 (x 11), .int .i64 (x 12), .int .i64 cl, vf, .int .i64 tk, .slice (some ⟨g, off, none⟩) N.length c, vb, vw] 33)).alloc (.cells #[.int .i64 (t.node : Int), .int .i64 (t.gen : Int), .int .i64 (t.ver : Int), .int .i64 (t.due : Int)] 140)).cell? ⟨g, off + t.node * 7 + 6, none⟩ = some (.int .i64 (nd.hshard : Int)) := below_cell hb (hc 6 (by decide))
  have HB := Go.Lib.hid (hb.trans ((Below.refl ((w.alloc (.cells #[.int .i64 (x 0), .int .i64 (x 1), .int .i64 (x 2), .int .i64 (x 3), .int .i64 (x 4), .int .i64 (x 5), .int .i64 (x 6), .int .i64 (x 7), .int .i64 (x 8), .int .i64 (x 9), .int .i64 (x 10), .int .i64 (x 11), .int .i64 (x 12), .int .i64 cl, vf, .int .i64 tk, .slice (some ⟨g, off, none⟩) N.length c, vb, vw] 33)).alloc (.cells #[.int .i64 (t.node : Int), .int .i64 (t.gen : Int), .int .i64 (t.ver : Int), .int .i64 (t.due : Int)] 140)).heap.size ((w.alloc (.cells #[.int .i64 (x 0), .int .i64 (x 1), .int .i64 (x 2), .int .i64 (x 3), .int .i64 (x 4), .int .i64 (x 5), .int .i64 (x 6), .int .i64 (x 7), .int .i64 (x 8), .int .i64 (x 9), .int .i64 (x 10), .int .i64 (x 11), .int .i64 (x 12), .int .i64 cl, vf, .int .i64 tk, .slice (some ⟨g, off, none⟩) N.length c, vb, vw] 33)).alloc (.cells #[.int .i64 (t.node : Int), .int .i64 (t.gen : Int), .int .i64 (t.ver : Int), .int .i64 (t.due : Int)] 140))).alloc (o := .cells #[.int .i64 (nd.gen : Int), .int .i64 (nd.time : Int), .int .i64 (nd.status : Int), .int .i64 (nd.user : Int), .int .i64 (nd.hgen : Int), .int .i64 (nd.hver : Int), .int .i64 (nd.hshard : Int)] 122) (Nat.le_refl _) |>.mono hb.size))
  have hi1 : (0 : Int) ≤ (t.node : Int) := by omega
  have hi2 : (t.node : Int) < (N.length : Int) := by omega
  clear hc hn hb ht
  by_cases h0 : nd.status = 1
  · have s0 : ((nd.status : Int) == 1) = true := by simp; omega
    have s1 : ((nd.status : Int) = 1) = True := by simp; omega
    rw [decide_eq_true h0, Bool.true_and]
    by_cases h1 : nd.gen = t.gen
    · rw [decide_eq_true h1]
      have g0 : ((nd.gen : Int) == (t.gen : Int)) = true := by simp; omega
      have g1 : ((nd.gen : Int) = (t.gen : Int)) = True := by simp; omega
      clear h0 h1
      go_enter Tryz.func180, Tryz.ntmps180
      go_wp2
      go_ret
      exact ⟨rfl, HB.out⟩
    · rw [decide_eq_false h1]
      have g0 : ((nd.gen : Int) == (t.gen : Int)) = false := by simp; omega
      have g1 : ((nd.gen : Int) = (t.gen : Int)) = False := by simp; omega
      clear h0 h1
      go_enter Tryz.func180, Tryz.ntmps180
      go_wp2
      go_ret
      exact ⟨rfl, HB.out⟩
  · have s0 : ((nd.status : Int) == 1) = false := by simp; omega
    have s1 : ((nd.status : Int) = 1) = False := by simp; omega
    rw [decide_eq_false h0, Bool.false_and]
    clear h0
    go_enter Tryz.func180, Tryz.ntmps180
    go_wp2
    go_ret
    exact ⟨rfl, HB.out⟩
end Go.Proofs.YtgemjjpmoejgdaaGreat
/- The document's shop: knellref16.WithNode, Lay. -/
namespace Go.Proofs.YtgemjjpmoejgdaaGreat
open Go.RowKit
set_option maxRecDepth 100000
set_option linter.unusedVariables false

theorem heap_set_same {w : World} {g j : Nat} {cs : Array Value} {t : TypeId} {fr : Nat × Nat} {v : Value} (h : w.heap[g]? = some (.cells cs t fr)) : (w.setCell ⟨g, j, none⟩ v).heap[g]? = some (.cells (cs.setIfInBounds j v) t fr) := by
  simp [World.setCell, Array.getElem?_modify, h]
theorem RowsAt.set {w : World} {k g n c i : Nat} {rows : List (List Value)} {r : List Value} (h : RowsAt w k (.slice (some ⟨g, 0, none⟩) n c) rows) (hk : ∀ r ∈ rows, r.length = k) (hr : r.length = k) (hi : i < rows.length) (hk0 : 0 < k) (hth : w.there g (i * k) r.length) : RowsAt (w.setCells g (i * k) r) k (.slice (some ⟨g, 0, none⟩) n c) (rows.set i r) := by
  obtain ⟨p, c', e, h1⟩ := h
  injection e with e1 e2 e3
  subst e1 e2 e3
  have hat : ∀ (i' : Nat) (r' : List Value), rows[i']? = some r' → w.rangeAt g (i' * k) r' := fun i' r' hr' j u hu => by
    obtain ⟨g', off, e, h2⟩ := h1 i' r' hr'
    injection e with e
    injection e with e1 e2 e3
    subst e1 e2
    have := h2 j u hu
    rwa [Nat.zero_add] at this
  refine ⟨_, _, by rw [List.length_set], fun i' r' hi' => ⟨g, 0, rfl, fun j u hu => ?_⟩⟩
  rw [Nat.zero_add]
  by_cases e : i' = i
  · subst e
    rw [List.getElem?_set_self hi] at hi'
    cases hi'
    exact World.rangeAt_setCells_same w g _ _ hth j u hu
  · rw [List.getElem?_set_ne (Ne.symm e)] at hi'
    have hl := hk _ (List.mem_of_getElem? hi')
    refine World.rangeAt_setCells_apart (hat i' r' hi') g _ r (.inr ?_) j u hu
    rw [hl, hr]
    rcases Nat.lt_or_ge i' i with q | q
    · left
      have := Nat.mul_le_mul_right k (Nat.succ_le_of_lt q)
      rw [Nat.succ_mul] at this
      exact this
    · right
      have := Nat.mul_le_mul_right k (Nat.succ_le_of_lt (show i < i' by omega))
      rw [Nat.succ_mul] at this
      exact this
theorem RowsAt.other {w : World} {k : Nat} {v u : Value} {rows : List (List Value)} {b o : Nat} (h : RowsAt w k v rows) (hne : ∀ a : Addr, (∃ n c, v = .slice (some a) n c) → a.block ≠ b) : RowsAt (w.setCell ⟨b, o, none⟩ u) k v rows := by
  obtain ⟨p, c, rfl, h1⟩ := h
  refine ⟨p, c, rfl, fun i r hi => ?_⟩
  obtain ⟨g, off, rfl, h2⟩ := h1 i r hi
  refine ⟨g, off, rfl, fun j u hj => ?_⟩
  have := hne ⟨g, off, none⟩ ⟨_, _, rfl⟩
  rw [World.cell?_of_block (Go.Deep.blk_setCell_other w _ _ g this)]
  exact h2 j u hj
theorem heap_setCells_other (w : World) (g : Nat) : ∀ (o : Nat) (vs : List Value) (k : Nat), k ≠ g → (w.setCells g o vs).heap[k]? = w.heap[k]? := by
  intro o vs
  induction vs generalizing w o with
  | nil => intro k _; rfl
  | cons v vs ih =>
    intro k hk
    show (World.setCells (w.setCell ⟨g, o, none⟩ v) g (o + 1) vs).heap[k]? = _
    rw [ih _ _ k hk, Go.Deep.blk_setCell_other _ _ _ _ hk]
theorem below_setCells2 {n : Nat} {w0 w : World} (h : Below n w0 w) (g : Nat) : ∀ (o : Nat) (vs : List Value), n ≤ g → Below n w0 (w.setCells g o vs) := by
  intro o vs hg
  induction vs generalizing w o with
  | nil => exact h
  | cons v vs ih => exact ih (h.setCell (p := ⟨g, o, none⟩) hg v) _
theorem own_pos {w : World} {base k n : Nat} {e : TypeId} {v : Value} {xs : List Value} (h : w.ownsRow base e k v n xs) (hn : 0 < n) : ∃ g c cur, v = .slice (some ⟨g, 0, none⟩) n c ∧ base ≤ g ∧ w.heap[g]? = some (.cells cur e (0, 0)) ∧ n ≤ c ∧ cur.size = c * k ∧ cur.toList.take (n * k) = xs := by
  rcases h.2 with ⟨_, h0⟩ | ⟨g, c, cur, h1, h2, h3, h4, _, h6, h7⟩
  · omega
  · exact ⟨g, c, cur, h1, h2, h3, h4, h6, h7⟩
theorem own_le {w : World} {base k n g c : Nat} {e : TypeId} {xs : List Value} (h : w.ownsRow base e k (.slice (some ⟨g, 0, none⟩) n c) n xs) : n ≤ c := by
  rcases h.2 with ⟨h1, _⟩ | ⟨g, c, cur, h1, _, _, h4, _⟩
  · cases h1
  · cases h1
    exact h4
theorem own_cell2 {w : World} {g j : Nat} {cur : Array Value} {e : TypeId} {fr : Nat × Nat} (h : w.heap[g]? = some (.cells cur e fr)) (hj : j < cur.size) : ∃ u, w.cell? ⟨g, j, none⟩ = some u := ⟨cur[j], (cell_of_row w g j cur e fr h).trans (Array.getElem?_eq_getElem hj)⟩
theorem own_store7 {w : World} {base n i : Nat} {e : TypeId} {v : Value} {xs : List Value} (h : w.ownsRow base e 7 v n xs) (hi : i < n) : ∃ g c cur, v = .slice (some ⟨g, 0, none⟩) n c ∧ base ≤ g ∧ w.heap[g]? = some (.cells cur e (0, 0)) ∧ cur.toList.take (n * 7) = xs ∧ i * 7 + 7 ≤ cur.size ∧ (∃ u, w.cell? ⟨g, i * 7, none⟩ = some u) ∧ w.frozen? ⟨g, i * 7, none⟩ = false ∧ (∃ u, w.cell? ⟨g, i * 7 + 1, none⟩ = some u) ∧ w.frozen? ⟨g, i * 7 + 1, none⟩ = false ∧ (∃ u, w.cell? ⟨g, i * 7 + 2, none⟩ = some u) ∧ w.frozen? ⟨g, i * 7 + 2, none⟩ = false ∧ (∃ u, w.cell? ⟨g, i * 7 + 3, none⟩ = some u) ∧ w.frozen? ⟨g, i * 7 + 3, none⟩ = false ∧ (∃ u, w.cell? ⟨g, i * 7 + 4, none⟩ = some u) ∧ w.frozen? ⟨g, i * 7 + 4, none⟩ = false ∧ (∃ u, w.cell? ⟨g, i * 7 + 5, none⟩ = some u) ∧ w.frozen? ⟨g, i * 7 + 5, none⟩ = false ∧ (∃ u, w.cell? ⟨g, i * 7 + 6, none⟩ = some u) ∧ w.frozen? ⟨g, i * 7 + 6, none⟩ = false := by
  rcases h.2 with ⟨_, h0⟩ | ⟨g, c, cur, h1, h2, h3, h4, _, h6, h7⟩
  · omega
  · have hj : ∀ k, k < 7 → i * 7 + k < cur.size := fun k hk => by
      rw [h6]
      have := Nat.mul_le_mul_right 7 (Nat.le_trans (Nat.succ_le_of_lt hi) h4)
      rw [Nat.succ_mul] at this
      omega
    exact ⟨g, c, cur, h1, h2, h3, h7, hj 6 (by decide), own_cell2 h3 (hj 0 (by decide)), frozen_of_row _ _ _ _ _ h3, own_cell2 h3 (hj 1 (by decide)), frozen_of_row _ _ _ _ _ h3, own_cell2 h3 (hj 2 (by decide)), frozen_of_row _ _ _ _ _ h3, own_cell2 h3 (hj 3 (by decide)), frozen_of_row _ _ _ _ _ h3, own_cell2 h3 (hj 4 (by decide)), frozen_of_row _ _ _ _ _ h3, own_cell2 h3 (hj 5 (by decide)), frozen_of_row _ _ _ _ _ h3, own_cell2 h3 (hj 6 (by decide)), frozen_of_row _ _ _ _ _ h3⟩
set_option maxHeartbeats 4000000 in
theorem ref16_WithNode (x : Nat → Int) (cl tk : Int) (vf vn vb vw : Value) (N : List NodeR) (i : Nat) (nd : NodeR) (w : World) (hn : NodesAt w vn N) (hi : i < N.length) (hl : N.length ≤ 1000) (hvf : vf.oneCell' = true) (hvb : vb.oneCell' = true) (hvw : vw.oneCell' = true) :
    Calls Tryz.prog 84 #[.agg #[.int .i64 (x 0), .int .i64 (x 1), .int .i64 (x 2), .int .i64 (x 3), .int .i64 (x 4), .int .i64 (x 5), .int .i64 (x 6), .int .i64 (x 7), .int .i64 (x 8), .int .i64 (x 9), .int .i64 (x 10), .int .i64 (x 11), .int .i64 (x 12), .int .i64 cl, vf, .int .i64 tk, vn, vb, vw], .int .i64 (i : Int), .agg #[.int .i64 (nd.gen : Int), .int .i64 (nd.time : Int), .int .i64 (nd.status : Int), .int .i64 (nd.user : Int), .int .i64 (nd.hgen : Int), .int .i64 (nd.hver : Int), .int .i64 (nd.hshard : Int)]] w fun e w' => ∃ g1 c1, e = .returned (.agg #[.int .i64 (x 0), .int .i64 (x 1), .int .i64 (x 2), .int .i64 (x 3), .int .i64 (x 4), .int .i64 (x 5), .int .i64 (x 6), .int .i64 (x 7), .int .i64 (x 8), .int .i64 (x 9), .int .i64 (x 10), .int .i64 (x 11), .int .i64 (x 12), .int .i64 cl, vf, .int .i64 tk, .slice (some ⟨g1, 0, none⟩) N.length c1, vb, vw]) ∧ w.heap.size ≤ g1 ∧ N.length ≤ c1 ∧ NodesAt w' (.slice (some ⟨g1, 0, none⟩) N.length c1) (N.set i nd) ∧ Below w.heap.size w w' := by
  have hinfo : (Tryz.prog.info? 122).map (fun i => (i.zero, i.size, i.bytes)) = some (some (.agg #[.int .i64 0, .int .i64 0, .int .i64 0, .int .i64 0, .int .i64 0, .int .i64 0, .int .i64 0]), 7, 56) := by kernel_rfl
  have hund : Tryz.prog.underlying 30 = some (.slice 122) := by kernel_rfl
  obtain ⟨i0, hi0, hz0, hz1, hz2⟩ := info_parts hinfo
  obtain ⟨g, off, c, rfl, _⟩ := hn.at hi
  have hgl : g < w.heap.size := by
    obtain ⟨g', off', c', e, h1⟩ := hn.at hi
    injection e with e1 e2 e3
    injection e1 with e1
    injection e1 with e4 e5 e6
    subst e4
    exact cell_lt (h1 0 (by decide))
  have hrl : ∀ r ∈ N.map NodeR.cells, r.length = 7 := by
    intro r hr
    obtain ⟨n, _, rfl⟩ := List.mem_map.1 hr
    rfl
  have hlen : (N.map NodeR.cells).flatten.length = N.length * 7 := by rw [flat_len _ hrl, List.length_map]
  have h1c : ∀ u ∈ (N.map NodeR.cells).flatten, u.oneCell' = true := by
    intro u hu
    obtain ⟨r, hr, hu⟩ := List.mem_flatten.1 hu
    obtain ⟨n, _, rfl⟩ := List.mem_map.1 hr
    unfold NodeR.cells at hu
    simp at hu
    rcases hu with rfl | rfl | rfl | rfl | rfl | rfl | rfl <;> rfl
  have hal : Below w.heap.size w ((((w.alloc (.cells #[.int .i64 (x 0), .int .i64 (x 1), .int .i64 (x 2), .int .i64 (x 3), .int .i64 (x 4), .int .i64 (x 5), .int .i64 (x 6), .int .i64 (x 7), .int .i64 (x 8), .int .i64 (x 9), .int .i64 (x 10), .int .i64 (x 11), .int .i64 (x 12), .int .i64 cl, vf, .int .i64 tk, .slice (some ⟨g, off, none⟩) N.length c, vb, vw] 33)).alloc (.cells #[.int .i64 (nd.gen : Int), .int .i64 (nd.time : Int), .int .i64 (nd.status : Int), .int .i64 (nd.user : Int), .int .i64 (nd.hgen : Int), .int .i64 (nd.hver : Int), .int .i64 (nd.hshard : Int)] 122)).alloc (.cells #[.int .i64 0, .int .i64 0, .int .i64 0, .int .i64 0, .int .i64 0, .int .i64 0, .int .i64 0, .int .i64 0, .int .i64 0, .int .i64 0, .int .i64 0, .int .i64 0, .int .i64 0, .int .i64 0, .slice none 0 0, .int .i64 0, .slice none 0 0, .slice none 0 0, .slice none 0 0] 33)).alloc (.cells #[] 122)) := (((((Below.refl _ _).alloc (Nat.le_refl _) _).alloc (by simp) _).alloc (by simp <;> omega) _).alloc (by simp <;> omega) _)
  have hnew := fun j u hj => below_cell hal (RowsAt.flat hn hrl (by decide) j u hj)
  have HNW : Hid (∀ (j : Nat) (u : Value), (N.map NodeR.cells).flatten[j]? = some u → World.cell? ((((w.alloc (.cells #[.int .i64 (x 0), .int .i64 (x 1), .int .i64 (x 2), .int .i64 (x 3), .int .i64 (x 4), .int .i64 (x 5), .int .i64 (x 6), .int .i64 (x 7), .int .i64 (x 8), .int .i64 (x 9), .int .i64 (x 10), .int .i64 (x 11), .int .i64 (x 12), .int .i64 cl, vf, .int .i64 tk, .slice (some ⟨g, off, none⟩) N.length c, vb, vw] 33)).alloc (.cells #[.int .i64 (nd.gen : Int), .int .i64 (nd.time : Int), .int .i64 (nd.status : Int), .int .i64 (nd.user : Int), .int .i64 (nd.hgen : Int), .int .i64 (nd.hver : Int), .int .i64 (nd.hshard : Int)] 122)).alloc (.cells #[.int .i64 0, .int .i64 0, .int .i64 0, .int .i64 0, .int .i64 0, .int .i64 0, .int .i64 0, .int .i64 0, .int .i64 0, .int .i64 0, .int .i64 0, .int .i64 0, .int .i64 0, .int .i64 0, .slice none 0 0, .int .i64 0, .slice none 0 0, .slice none 0 0, .slice none 0 0] 33)).alloc (.cells #[] 122)) ((⟨g, off, none⟩ : Addr).add j) = some u) := Go.Lib.hid (fun j u hj => by
    have := hnew j u hj
    unfold Addr.add
    split
    · rename_i e; subst e; exact this
    · exact this)
  have hown0 : World.ownsRow ((((w.alloc (.cells #[.int .i64 (x 0), .int .i64 (x 1), .int .i64 (x 2), .int .i64 (x 3), .int .i64 (x 4), .int .i64 (x 5), .int .i64 (x 6), .int .i64 (x 7), .int .i64 (x 8), .int .i64 (x 9), .int .i64 (x 10), .int .i64 (x 11), .int .i64 (x 12), .int .i64 cl, vf, .int .i64 tk, .slice (some ⟨g, off, none⟩) N.length c, vb, vw] 33)).alloc (.cells #[.int .i64 (nd.gen : Int), .int .i64 (nd.time : Int), .int .i64 (nd.status : Int), .int .i64 (nd.user : Int), .int .i64 (nd.hgen : Int), .int .i64 (nd.hver : Int), .int .i64 (nd.hshard : Int)] 122)).alloc (.cells #[.int .i64 0, .int .i64 0, .int .i64 0, .int .i64 0, .int .i64 0, .int .i64 0, .int .i64 0, .int .i64 0, .int .i64 0, .int .i64 0, .int .i64 0, .int .i64 0, .int .i64 0, .int .i64 0, .slice none 0 0, .int .i64 0, .slice none 0 0, .slice none 0 0, .slice none 0 0] 33)).alloc (.cells #[] 122)) (w.heap.size + 1 + 1 + 1) 122 7 (.slice (some ⟨w.heap.size + 1 + 1 + 1, 0, none⟩) 0 0) 0 [] :=
    ⟨rfl, .inr ⟨w.heap.size + 1 + 1 + 1, 0, #[], rfl, Nat.le_refl _, by have h := heap_alloc_new (((w.alloc (.cells #[.int .i64 (x 0), .int .i64 (x 1), .int .i64 (x 2), .int .i64 (x 3), .int .i64 (x 4), .int .i64 (x 5), .int .i64 (x 6), .int .i64 (x 7), .int .i64 (x 8), .int .i64 (x 9), .int .i64 (x 10), .int .i64 (x 11), .int .i64 (x 12), .int .i64 cl, vf, .int .i64 tk, .slice (some ⟨g, off, none⟩) N.length c, vb, vw] 33)).alloc (.cells #[.int .i64 (nd.gen : Int), .int .i64 (nd.time : Int), .int .i64 (nd.status : Int), .int .i64 (nd.user : Int), .int .i64 (nd.hgen : Int), .int .i64 (nd.hver : Int), .int .i64 (nd.hshard : Int)] 122)).alloc (.cells #[.int .i64 0, .int .i64 0, .int .i64 0, .int .i64 0, .int .i64 0, .int .i64 0, .int .i64 0, .int .i64 0, .int .i64 0, .int .i64 0, .int .i64 0, .int .i64 0, .int .i64 0, .int .i64 0, .slice none 0 0, .int .i64 0, .slice none 0 0, .slice none 0 0, .slice none 0 0] 33)) (.cells #[] 122); rw [World.size_alloc, World.size_alloc, World.size_alloc] at h; exact h, by decide, by decide, rfl, rfl⟩⟩
  have hb3 : ((((w.alloc (.cells #[.int .i64 (x 0), .int .i64 (x 1), .int .i64 (x 2), .int .i64 (x 3), .int .i64 (x 4), .int .i64 (x 5), .int .i64 (x 6), .int .i64 (x 7), .int .i64 (x 8), .int .i64 (x 9), .int .i64 (x 10), .int .i64 (x 11), .int .i64 (x 12), .int .i64 cl, vf, .int .i64 tk, .slice (some ⟨g, off, none⟩) N.length c, vb, vw] 33)).alloc (.cells #[.int .i64 (nd.gen : Int), .int .i64 (nd.time : Int), .int .i64 (nd.status : Int), .int .i64 (nd.user : Int), .int .i64 (nd.hgen : Int), .int .i64 (nd.hver : Int), .int .i64 (nd.hshard : Int)] 122)).alloc (.cells #[.int .i64 0, .int .i64 0, .int .i64 0, .int .i64 0, .int .i64 0, .int .i64 0, .int .i64 0, .int .i64 0, .int .i64 0, .int .i64 0, .int .i64 0, .int .i64 0, .int .i64 0, .int .i64 0, .slice none 0 0, .int .i64 0, .slice none 0 0, .slice none 0 0, .slice none 0 0] 33)).alloc (.cells #[] 122)).heap[w.heap.size]? = some (.cells #[.int .i64 (x 0), .int .i64 (x 1), .int .i64 (x 2), .int .i64 (x 3), .int .i64 (x 4), .int .i64 (x 5), .int .i64 (x 6), .int .i64 (x 7), .int .i64 (x 8), .int .i64 (x 9), .int .i64 (x 10), .int .i64 (x 11), .int .i64 (x 12), .int .i64 cl, vf, .int .i64 tk, .slice (some ⟨g, off, none⟩) N.length c, vb, vw] 33) := by
    rw [Below.heap_alloc _ _ _ (by simp <;> omega), Below.heap_alloc _ _ _ (by simp <;> omega), Below.heap_alloc _ _ _ (by simp <;> omega)]
    exact heap_alloc_new w _
  have hb5 : ((((w.alloc (.cells #[.int .i64 (x 0), .int .i64 (x 1), .int .i64 (x 2), .int .i64 (x 3), .int .i64 (x 4), .int .i64 (x 5), .int .i64 (x 6), .int .i64 (x 7), .int .i64 (x 8), .int .i64 (x 9), .int .i64 (x 10), .int .i64 (x 11), .int .i64 (x 12), .int .i64 cl, vf, .int .i64 tk, .slice (some ⟨g, off, none⟩) N.length c, vb, vw] 33)).alloc (.cells #[.int .i64 (nd.gen : Int), .int .i64 (nd.time : Int), .int .i64 (nd.status : Int), .int .i64 (nd.user : Int), .int .i64 (nd.hgen : Int), .int .i64 (nd.hver : Int), .int .i64 (nd.hshard : Int)] 122)).alloc (.cells #[.int .i64 0, .int .i64 0, .int .i64 0, .int .i64 0, .int .i64 0, .int .i64 0, .int .i64 0, .int .i64 0, .int .i64 0, .int .i64 0, .int .i64 0, .int .i64 0, .int .i64 0, .int .i64 0, .slice none 0 0, .int .i64 0, .slice none 0 0, .slice none 0 0, .slice none 0 0] 33)).alloc (.cells #[] 122)).heap[w.heap.size + 1]? = some (.cells #[.int .i64 (nd.gen : Int), .int .i64 (nd.time : Int), .int .i64 (nd.status : Int), .int .i64 (nd.user : Int), .int .i64 (nd.hgen : Int), .int .i64 (nd.hver : Int), .int .i64 (nd.hshard : Int)] 122) := by
    rw [Below.heap_alloc _ _ _ (by simp <;> omega), Below.heap_alloc _ _ _ (by simp <;> omega)]
    have h := heap_alloc_new (w.alloc (.cells #[.int .i64 (x 0), .int .i64 (x 1), .int .i64 (x 2), .int .i64 (x 3), .int .i64 (x 4), .int .i64 (x 5), .int .i64 (x 6), .int .i64 (x 7), .int .i64 (x 8), .int .i64 (x 9), .int .i64 (x 10), .int .i64 (x 11), .int .i64 (x 12), .int .i64 cl, vf, .int .i64 tk, .slice (some ⟨g, off, none⟩) N.length c, vb, vw] 33)) (.cells #[.int .i64 (nd.gen : Int), .int .i64 (nd.time : Int), .int .i64 (nd.status : Int), .int .i64 (nd.user : Int), .int .i64 (nd.hgen : Int), .int .i64 (nd.hver : Int), .int .i64 (nd.hshard : Int)] 122)
    rw [World.size_alloc] at h
    exact h
  have hb6 : ((((w.alloc (.cells #[.int .i64 (x 0), .int .i64 (x 1), .int .i64 (x 2), .int .i64 (x 3), .int .i64 (x 4), .int .i64 (x 5), .int .i64 (x 6), .int .i64 (x 7), .int .i64 (x 8), .int .i64 (x 9), .int .i64 (x 10), .int .i64 (x 11), .int .i64 (x 12), .int .i64 cl, vf, .int .i64 tk, .slice (some ⟨g, off, none⟩) N.length c, vb, vw] 33)).alloc (.cells #[.int .i64 (nd.gen : Int), .int .i64 (nd.time : Int), .int .i64 (nd.status : Int), .int .i64 (nd.user : Int), .int .i64 (nd.hgen : Int), .int .i64 (nd.hver : Int), .int .i64 (nd.hshard : Int)] 122)).alloc (.cells #[.int .i64 0, .int .i64 0, .int .i64 0, .int .i64 0, .int .i64 0, .int .i64 0, .int .i64 0, .int .i64 0, .int .i64 0, .int .i64 0, .int .i64 0, .int .i64 0, .int .i64 0, .int .i64 0, .slice none 0 0, .int .i64 0, .slice none 0 0, .slice none 0 0, .slice none 0 0] 33)).alloc (.cells #[] 122)).heap[w.heap.size + 1 + 1]? = some (.cells #[.int .i64 0, .int .i64 0, .int .i64 0, .int .i64 0, .int .i64 0, .int .i64 0, .int .i64 0, .int .i64 0, .int .i64 0, .int .i64 0, .int .i64 0, .int .i64 0, .int .i64 0, .int .i64 0, .slice none 0 0, .int .i64 0, .slice none 0 0, .slice none 0 0, .slice none 0 0] 33) := by
    rw [Below.heap_alloc _ _ _ (by simp)]
    have h := heap_alloc_new ((w.alloc (.cells #[.int .i64 (x 0), .int .i64 (x 1), .int .i64 (x 2), .int .i64 (x 3), .int .i64 (x 4), .int .i64 (x 5), .int .i64 (x 6), .int .i64 (x 7), .int .i64 (x 8), .int .i64 (x 9), .int .i64 (x 10), .int .i64 (x 11), .int .i64 (x 12), .int .i64 cl, vf, .int .i64 tk, .slice (some ⟨g, off, none⟩) N.length c, vb, vw] 33)).alloc (.cells #[.int .i64 (nd.gen : Int), .int .i64 (nd.time : Int), .int .i64 (nd.status : Int), .int .i64 (nd.user : Int), .int .i64 (nd.hgen : Int), .int .i64 (nd.hver : Int), .int .i64 (nd.hshard : Int)] 122)) (.cells #[.int .i64 0, .int .i64 0, .int .i64 0, .int .i64 0, .int .i64 0, .int .i64 0, .int .i64 0, .int .i64 0, .int .i64 0, .int .i64 0, .int .i64 0, .int .i64 0, .int .i64 0, .int .i64 0, .slice none 0 0, .int .i64 0, .slice none 0 0, .slice none 0 0, .slice none 0 0] 33)
    rw [World.size_alloc, World.size_alloc] at h
    exact h
  have HB3 := Go.Lib.hid hb3; have HB5 := Go.Lib.hid hb5; have HB6 := Go.Lib.hid hb6
  clear hb3 hb5 hb6
  have hi1 : (0 : Int) ≤ (i : Int) := by omega
  have hi2 : (i : Int) < (N.length : Int) := by omega
  have HOWN := Go.Lib.hid hown0
  have HAL := Go.Lib.hid hal
  clear hown0 hal hnew hn
  go_enter Tryz.func84, Tryz.ntmps84
  go_upto_region 2 with (first
    | (at_builtin; (refine wpList_append_own _ rfl _ _ 30 rfl (w.heap.size + 1 + 1 + 1) 122 i0 _ 7 56 hund hi0 hz0 hz1 hz2 rfl (by decide) _ 0 [] rfl HOWN.out ⟨g, off, none⟩ N.length c (N.map NodeR.cells).flatten rfl hlen HNW.out h1c (by unfold maxLen; omega) (by omega) (by simp) ?_; intro v1 w1 hown1 hgrow1 hnil1; replace hgrow1 : World.grownBy ((((w.alloc (.cells #[.int .i64 (x 0), .int .i64 (x 1), .int .i64 (x 2), .int .i64 (x 3), .int .i64 (x 4), .int .i64 (x 5), .int .i64 (x 6), .int .i64 (x 7), .int .i64 (x 8), .int .i64 (x 9), .int .i64 (x 10), .int .i64 (x 11), .int .i64 (x 12), .int .i64 cl, vf, .int .i64 tk, .slice (some ⟨g, off, none⟩) N.length c, vb, vw] 33)).alloc (.cells #[.int .i64 (nd.gen : Int), .int .i64 (nd.time : Int), .int .i64 (nd.status : Int), .int .i64 (nd.user : Int), .int .i64 (nd.hgen : Int), .int .i64 (nd.hver : Int), .int .i64 (nd.hshard : Int)] 122)).alloc (.cells #[.int .i64 0, .int .i64 0, .int .i64 0, .int .i64 0, .int .i64 0, .int .i64 0, .int .i64 0, .int .i64 0, .int .i64 0, .int .i64 0, .int .i64 0, .int .i64 0, .int .i64 0, .int .i64 0, .slice none 0 0, .int .i64 0, .slice none 0 0, .slice none 0 0, .slice none 0 0] 33)).alloc (.cells #[] 122)) w1 (some (w.heap.size + 1 + 1 + 1)) := hgrow1; rw [Nat.zero_add, List.nil_append] at hown1; obtain ⟨g1, c1, cur, rfl, hg1, hcur, htk, hcs, ⟨u0, e0⟩, fg0, ⟨u1, e1⟩, fg1, ⟨u2, e2⟩, fg2, ⟨u3, e3⟩, fg3, ⟨u4, e4⟩, fg4, ⟨u5, e5⟩, fg5, ⟨u6, e6⟩, fg6⟩ := own_store7 hown1 hi; have hcp1 := own_le hown1; have B3 := (hgrow1.block w.heap.size (by simp <;> omega) (by simp <;> omega)).trans HB3.out; have B5 := (hgrow1.block (w.heap.size + 1) (by simp <;> omega) (by simp)).trans HB5.out; have B6 := (hgrow1.block (w.heap.size + 1 + 1) (by simp) (by simp)).trans HB6.out; have n3 : ¬ g1 = w.heap.size := (by omega); have n3' : ¬ w.heap.size = g1 := (by omega); have n5 : ¬ g1 = w.heap.size + 1 := (by omega); have n5' : ¬ w.heap.size + 1 = g1 := (by omega); have n6 : ¬ g1 = w.heap.size + 1 + 1 := (by omega); have n6' : ¬ w.heap.size + 1 + 1 = g1 := (by omega); have HBW := Go.Lib.hid (HAL.out.grown hgrow1 (by simp <;> omega) (by intro k hk; have := Option.some.inj (show some (w.heap.size + 1 + 1 + 1) = some k from hk); omega)); clear HB3 HB5 HB6 HOWN HNW hgrow1 hnil1; have f3 : w1.frozen? ⟨w.heap.size, 16, none⟩ = false := frozen_of_row _ _ _ _ _ B3; have q16 := cell_of_row w1 w.heap.size 16 _ _ _ B3; replace q16 : w1.cell? ⟨w.heap.size, 16, none⟩ = some (.slice (some ⟨g, off, none⟩) N.length c) := q16))
    | fail)
  have B3' := heap_set_same (j := 16) (v := .slice (some ⟨g1, 0, none⟩) N.length c1) B3
  have B6' := (Go.Deep.blk_setCell_other w1 ⟨w.heap.size, 16, none⟩ (.slice (some ⟨g1, 0, none⟩) N.length c1) (w.heap.size + 1 + 1) (by show w.heap.size + 1 + 1 ≠ w.heap.size; omega)).trans B6
  have B5' := (Go.Deep.blk_setCell_other w1 ⟨w.heap.size, 16, none⟩ (.slice (some ⟨g1, 0, none⟩) N.length c1) (w.heap.size + 1) (by show w.heap.size + 1 ≠ w.heap.size; omega)).trans B5
  have hcur' := (Go.Deep.blk_setCell_other w1 ⟨w.heap.size, 16, none⟩ (.slice (some ⟨g1, 0, none⟩) N.length c1) g1 n3).trans hcur
  have HBW2 := Go.Lib.hid (show Below w.heap.size w (w1.setCell ⟨w.heap.size, 16, none⟩ (.slice (some ⟨g1, 0, none⟩) N.length c1)) from HBW.out.setCell (Nat.le_refl _) _)
  have hrows : RowsAt w1 7 (.slice (some ⟨g1, 0, none⟩) N.length c1) (N.map NodeR.cells) := RowsAt.own (by rw [List.length_map]; exact hown1) hrl
  have hrows' : RowsAt (w1.setCell ⟨w.heap.size, 16, none⟩ (.slice (some ⟨g1, 0, none⟩) N.length c1)) 7 (.slice (some ⟨g1, 0, none⟩) N.length c1) (N.map NodeR.cells) := hrows.other (by
    intro a ha
    obtain ⟨n', c', ha⟩ := ha
    have : a = ⟨g1, 0, none⟩ := by injection ha with ha; injection ha with ha; exact ha.symm
    rw [this]
    exact n3)
  clear B3 B5 B6 hcur hown1 hrows f3 q16 htk HBW e0 e1 e2 e3 e4 e5 e6 fg0 fg1 fg2 fg3 fg4 fg5 fg6
  generalize (w1.setCell ⟨w.heap.size, 16, none⟩ (.slice (some ⟨g1, 0, none⟩) N.length c1)) = W2 at *
  have q16 : W2.cell? ⟨w.heap.size, 16, none⟩ = some (.slice (some ⟨g1, 0, none⟩) N.length c1) := cell_of_row _ _ _ _ _ _ B3'
  have HTH : Hid (W2.there g1 (i * 7) 7) := Go.Lib.hid (fun j hj => by
    obtain ⟨u, hu⟩ := own_cell2 hcur' (j := i * 7 + j) (by omega)
    exact ⟨by rw [hu]; rfl, frozen_of_row _ _ _ _ _ hcur'⟩)
  have hset := RowsAt.set (i := i) (r := NodeR.cells nd) hrows' hrl rfl (by rw [List.length_map]; exact hi) (by decide) HTH.out
  have q5_0 : W2.cell? ⟨w.heap.size + 1, 0, none⟩ = some (.int .i64 (nd.gen : Int)) := cell_of_row _ _ _ _ _ _ B5'
  have q5_1 : W2.cell? ⟨w.heap.size + 1, 1, none⟩ = some (.int .i64 (nd.time : Int)) := cell_of_row _ _ _ _ _ _ B5'
  have q5_2 : W2.cell? ⟨w.heap.size + 1, 2, none⟩ = some (.int .i64 (nd.status : Int)) := cell_of_row _ _ _ _ _ _ B5'
  have q5_3 : W2.cell? ⟨w.heap.size + 1, 3, none⟩ = some (.int .i64 (nd.user : Int)) := cell_of_row _ _ _ _ _ _ B5'
  have q5_4 : W2.cell? ⟨w.heap.size + 1, 4, none⟩ = some (.int .i64 (nd.hgen : Int)) := cell_of_row _ _ _ _ _ _ B5'
  have q5_5 : W2.cell? ⟨w.heap.size + 1, 5, none⟩ = some (.int .i64 (nd.hver : Int)) := cell_of_row _ _ _ _ _ _ B5'
  have q5_6 : W2.cell? ⟨w.heap.size + 1, 6, none⟩ = some (.int .i64 (nd.hshard : Int)) := cell_of_row _ _ _ _ _ _ B5'
  go_wp2_with (first
    | (refine wpList_store_mid (op := ⟨none, .store 122 _ _, _, _, _, _⟩) rfl 122 (.tmp 16) (.tmp 15) rfl g1 (i * 7) (NodeR.cells nd).toArray rfl rfl HTH.out (by kernel_rfl) (by kernel_rfl) ?_; refine Hid.out ?_))
  clear q5_0 q5_1 q5_2 q5_3 q5_4 q5_5 q5_6 q16
  have B3 := (heap_setCells_other W2 g1 (i * 7) (NodeR.cells nd) w.heap.size n3').trans B3'
  have B6 := (heap_setCells_other W2 g1 (i * 7) (NodeR.cells nd) (w.heap.size + 1 + 1) n6').trans B6'
  have HBW3 := Go.Lib.hid (below_setCells2 HBW2.out g1 (i * 7) (NodeR.cells nd) (by omega))
  rw [← List.map_set] at hset
  have HSET := Go.Lib.hid hset
  clear B3' B6' B5' hcur' hrows' hset HTH HBW2
  generalize W2.setCells g1 (i * 7) (NodeR.cells nd) = W3 at *
  replace B3 : W3.heap[w.heap.size]? = some (.cells #[.int .i64 (x 0), .int .i64 (x 1), .int .i64 (x 2), .int .i64 (x 3), .int .i64 (x 4), .int .i64 (x 5), .int .i64 (x 6), .int .i64 (x 7), .int .i64 (x 8), .int .i64 (x 9), .int .i64 (x 10), .int .i64 (x 11), .int .i64 (x 12), .int .i64 cl, vf, .int .i64 tk, .slice (some ⟨g1, 0, none⟩) N.length c1, vb, vw] 33) := B3
  unfold Hid
  go_wp2_with (first
    | (refine wpList_load_row (o := ⟨some 17, .load 33 _, _, _, _, _⟩) rfl 33 (.tmp 3) rfl w.heap.size rfl 33 #[.int .i64 (x 0), .int .i64 (x 1), .int .i64 (x 2), .int .i64 (x 3), .int .i64 (x 4), .int .i64 (x 5), .int .i64 (x 6), .int .i64 (x 7), .int .i64 (x 8), .int .i64 (x 9), .int .i64 (x 10), .int .i64 (x 11), .int .i64 (x 12), .int .i64 cl, vf, .int .i64 tk, .slice (some ⟨g1, 0, none⟩) N.length c1, vb, vw] (0, 0) _ B3 Tryz.underlying33 rfl (by kernel_rfl) ?_)
    | (refine wpList_store_rowTo (o := ⟨none, .store 33 _ _, _, _, _, _⟩) rfl 33 (.tmp 6) (.tmp 17) rfl rfl (w.heap.size + 1 + 1) #[.int .i64 (x 0), .int .i64 (x 1), .int .i64 (x 2), .int .i64 (x 3), .int .i64 (x 4), .int .i64 (x 5), .int .i64 (x 6), .int .i64 (x 7), .int .i64 (x 8), .int .i64 (x 9), .int .i64 (x 10), .int .i64 (x 11), .int .i64 (x 12), .int .i64 cl, vf, .int .i64 tk, .slice (some ⟨g1, 0, none⟩) N.length c1, vb, vw] rfl rfl 33 #[.int .i64 0, .int .i64 0, .int .i64 0, .int .i64 0, .int .i64 0, .int .i64 0, .int .i64 0, .int .i64 0, .int .i64 0, .int .i64 0, .int .i64 0, .int .i64 0, .int .i64 0, .int .i64 0, .slice none 0 0, .int .i64 0, .slice none 0 0, .slice none 0 0, .slice none 0 0] B6 (by kernel_rfl) rfl (by simp [show ∀ k n, (Value.int k n).oneCell' = true from fun _ _ => rfl, show ∀ a n c, (Value.slice a n c).oneCell' = true from fun _ _ _ => rfl, hvf, hvb, hvw]) ?_; refine Hid.out ?_))
  have B7 := setRow_heap W3 (w.heap.size + 1 + 1) #[.int .i64 0, .int .i64 0, .int .i64 0, .int .i64 0, .int .i64 0, .int .i64 0, .int .i64 0, .int .i64 0, .int .i64 0, .int .i64 0, .int .i64 0, .int .i64 0, .int .i64 0, .int .i64 0, .slice none 0 0, .int .i64 0, .slice none 0 0, .slice none 0 0, .slice none 0 0] #[.int .i64 (x 0), .int .i64 (x 1), .int .i64 (x 2), .int .i64 (x 3), .int .i64 (x 4), .int .i64 (x 5), .int .i64 (x 6), .int .i64 (x 7), .int .i64 (x 8), .int .i64 (x 9), .int .i64 (x 10), .int .i64 (x 11), .int .i64 (x 12), .int .i64 cl, vf, .int .i64 tk, .slice (some ⟨g1, 0, none⟩) N.length c1, vb, vw] 33 (0, 0) B6
  have HN7 : NodesAt (W3.setRow (w.heap.size + 1 + 1) #[.int .i64 (x 0), .int .i64 (x 1), .int .i64 (x 2), .int .i64 (x 3), .int .i64 (x 4), .int .i64 (x 5), .int .i64 (x 6), .int .i64 (x 7), .int .i64 (x 8), .int .i64 (x 9), .int .i64 (x 10), .int .i64 (x 11), .int .i64 (x 12), .int .i64 cl, vf, .int .i64 tk, .slice (some ⟨g1, 0, none⟩) N.length c1, vb, vw]) (.slice (some ⟨g1, 0, none⟩) N.length c1) (N.set i nd) := by
    obtain ⟨p, c', e, h1⟩ := HSET.out
    injection e with e1 e2 e3
    subst e1
    refine ⟨_, c', by rw [e2, e3], fun i' r hr => ?_⟩
    obtain ⟨g', off', e, h2⟩ := h1 i' r hr
    injection e with e
    injection e with e4 e5 e6
    subst e4 e5
    exact ⟨g1, 0, rfl, fun j u hj => (cell_setRow_other _ _ _ ⟨g1, 0 + i' * 7 + j, none⟩ n6).trans (h2 j u hj)⟩
  have HB7 := below_setRow HBW3.out (show w.heap.size ≤ w.heap.size + 1 + 1 by omega) #[.int .i64 (x 0), .int .i64 (x 1), .int .i64 (x 2), .int .i64 (x 3), .int .i64 (x 4), .int .i64 (x 5), .int .i64 (x 6), .int .i64 (x 7), .int .i64 (x 8), .int .i64 (x 9), .int .i64 (x 10), .int .i64 (x 11), .int .i64 (x 12), .int .i64 cl, vf, .int .i64 tk, .slice (some ⟨g1, 0, none⟩) N.length c1, vb, vw]
  unfold Hid
  clear HSET HBW3 B6 B3
  generalize W3.setRow (w.heap.size + 1 + 1) #[.int .i64 (x 0), .int .i64 (x 1), .int .i64 (x 2), .int .i64 (x 3), .int .i64 (x 4), .int .i64 (x 5), .int .i64 (x 6), .int .i64 (x 7), .int .i64 (x 8), .int .i64 (x 9), .int .i64 (x 10), .int .i64 (x 11), .int .i64 (x 12), .int .i64 cl, vf, .int .i64 tk, .slice (some ⟨g1, 0, none⟩) N.length c1, vb, vw] = W4 at *
  have HN8 := Go.Lib.hid HN7; have HB8 := Go.Lib.hid HB7
  clear HN7 HB7
  go_wp2_with fail
  exact bodyPost_ret (results_cell_row rfl _ _ (w.heap.size + 1 + 1) 33 #[.int .i64 (x 0), .int .i64 (x 1), .int .i64 (x 2), .int .i64 (x 3), .int .i64 (x 4), .int .i64 (x 5), .int .i64 (x 6), .int .i64 (x 7), .int .i64 (x 8), .int .i64 (x 9), .int .i64 (x 10), .int .i64 (x 11), .int .i64 (x 12), .int .i64 cl, vf, .int .i64 tk, .slice (some ⟨g1, 0, none⟩) N.length c1, vb, vw] (0, 0) _ rfl B7 Tryz.underlying33 rfl (by kernel_rfl)) rfl ⟨g1, c1, rfl, by omega, hcp1, HN8.out, HB8.out⟩
end Go.Proofs.YtgemjjpmoejgdaaGreat
/- A region that draws its order, by an invariant on what is done, the slots and the world. -/
namespace Go.Proofs.YtgemjjpmoejgdaaGreat
open Go
set_option linter.unusedVariables false

section
variable {P : Program} {ops : Array Oper}
end
end Go.Proofs.YtgemjjpmoejgdaaGreat
