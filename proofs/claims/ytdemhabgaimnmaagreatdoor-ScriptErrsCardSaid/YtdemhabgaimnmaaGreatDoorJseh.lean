/- All that was noted, as a list. -/
import Derived.Test.YtdemhabgaimnmaaGreatDoorJseg
import Derived.Defers
namespace Go.Proofs.YtdemhabgaimnmaaGreatDoor
open Go.RowKit
set_option maxRecDepth 100000
set_option linter.unusedVariables false

set_option maxHeartbeats 1000000 in
theorem log_list_some (k g n cap : Nat) (news : List Value) (w : World) (hk : w.cell? ⟨k, 2, none⟩ = some (.slice (some ⟨g, 0, none⟩) n cap)) (hm : n ≤ 1000000) (hcap : n ≤ cap) (hl : news.length = n * 12) (hn : ∀ j u, news[j]? = some u → w.cell? ⟨g, j, none⟩ = some u) (hg : g < w.heap.size) (h1 : ∀ u ∈ news, u.oneCell' = true) :
    Calls Tryz.prog 50 #[.pointer (some ⟨k, 2, none⟩), .int .i64 0] w fun e w' => ∃ v, e = .returned v ∧ w'.ownsRow w.heap.size 85 12 v n news ∧ Below w.heap.size w w' := by
  have HC : Hid (∀ W, Below w.heap.size w W → Calls Tryz.prog 68 #[.slice (some ⟨g, 0, none⟩) n cap] W fun e w' => ∃ v, e = .returned v ∧ w'.ownsRow W.heap.size 85 12 v n news ∧ Below W.heap.size W w') := fun W hW =>
    clone_events g n cap news W hm hl (fun j u hj => below_cell hW (hn j u hj)) (Nat.lt_of_lt_of_le hg hW.size) h1
  clear hn
  have hk' : ∀ d os, (Sort.grow (redrawn w d) os).cell? ⟨k, 2, none⟩ = some (.slice (some ⟨g, 0, none⟩) n cap) := fun d os => cell_regrown hk d os
  have hmin : min (0 : Int) (n : Int) = 0 := by omega
  have hi1 : (0 : Int) ≤ (n : Int) := by omega
  go_enter Tryz.func50, Tryz.ntmps50
  go_wp2
  refine wp_region_below_tail 12 (by kernel_rfl) (by kernel_rfl) ?_
  simp only [List.take_succ_cons, List.take_zero, List.drop_succ_cons, List.drop_zero]
  repeat (go_big_quiet_step (fail))
  refine wpQuiet_nil ?_
  intro W1 hw'
  obtain ⟨p, rfl⟩ := hw'
  have hb := below_regrown w p.d p.os
  clear hk'
  generalize Sort.grow (redrawn w p.d) p.os = W1 at *
  go_wp2_with fail
  refine (HC.out W1 hb).mono ?_
  rintro e w2 ⟨v, rfl, hown, hb2⟩
  go_wp2
  go_ret
  exact ⟨v, rfl, own_mono hown hb.size, hb.trans (hb2.mono hb.size)⟩
set_option maxHeartbeats 1000000 in
theorem clone_nil (w : World) : Calls Tryz.prog 68 #[.slice none 0 0] w fun e w' => e = .returned (.slice none 0 0) ∧ w' = w := by
  have hcmp : ∀ w, Sem.run Tryz.prog (binOp BinOp.eql 82 (Value.slice none 0 0) (Value.slice none 0 0)) w = .ok (.bool true) w := fun w => by kernel_rfl
  go_enter Tryz.func68, Tryz.ntmps68
  go_wp2
  go_ret
  exact ⟨rfl, rfl⟩
set_option maxHeartbeats 1000000 in
theorem log_list_none (k : Nat) (w : World) (hk : w.cell? ⟨k, 2, none⟩ = some (.slice none 0 0)) :
    Calls Tryz.prog 50 #[.pointer (some ⟨k, 2, none⟩), .int .i64 0] w fun e w' => e = .returned (.slice none 0 0) ∧ Below w.heap.size w w' := by
  have hk' : ∀ d os, (Sort.grow (redrawn w d) os).cell? ⟨k, 2, none⟩ = some (.slice none 0 0) := fun d os => cell_regrown hk d os
  go_enter Tryz.func50, Tryz.ntmps50
  go_wp2
  refine wp_region_below_tail 12 (by kernel_rfl) (by kernel_rfl) ?_
  simp only [List.take_succ_cons, List.take_zero, List.drop_succ_cons, List.drop_zero]
  repeat (go_big_quiet_step (fail))
  refine wpQuiet_nil ?_
  intro W1 hw'
  obtain ⟨p, rfl⟩ := hw'
  have hb := below_regrown w p.d p.os
  clear hk'
  generalize Sort.grow (redrawn w p.d) p.os = W1 at *
  go_wp2_with fail
  refine (clone_nil W1).mono ?_
  rintro e w2 ⟨rfl, rfl⟩
  go_wp2
  go_ret
  exact ⟨rfl, hb⟩
theorem own_cells {w : World} {base : Nat} {e : TypeId} {size : Nat} {g n cap : Nat} {xs : List Value} (h : w.ownsRow base e size (.slice (some ⟨g, 0, none⟩) n cap) n xs) (j : Nat) (u : Value) (hj : xs[j]? = some u) : w.cell? ⟨g, j, none⟩ = some u := by
  rcases h.2 with ⟨he, _⟩ | ⟨g', cap', cur, he, _, hb, h1, h2, h3, h4⟩
  · cases he
  · obtain ⟨rfl, rfl⟩ : g' = g ∧ cap' = cap := by cases he; exact ⟨rfl, rfl⟩
    rw [cell_of_row _ _ _ _ _ _ hb]
    rw [← h4, List.getElem?_take] at hj
    split at hj
    · simpa using hj
    · cases hj
theorem cells_one (e : Ev) : ∀ u ∈ e.cells, u.oneCell' = true := by
  intro u hu
  simp only [Ev.cells, List.mem_cons, List.not_mem_nil, or_false] at hu
  rcases hu with rfl | rfl | rfl | rfl | rfl | rfl | rfl | rfl | rfl | rfl | rfl | rfl <;> rfl
theorem flat_length (l : List Ev) : (l.flatMap Ev.cells).length = l.length * 12 := by
  induction l with
  | nil => rfl
  | cons a l ih => rw [List.flatMap_cons, List.length_append, ih, List.length_cons]; show 12 + _ = _; omega
/-- All that was noted. -/
theorem log_list {E : G} {L : Lab} {S : St} {w : World} (hg : Good E L S w) (hn : S.log.length ≤ 1000000) :
    Calls Tryz.prog 50 #[.pointer (some ⟨E.k, 2, none⟩), .int .i64 0] w fun e w' => ∃ v, e = .returned v ∧ w'.ownsRow w.heap.size 85 12 v S.log.length (S.log.flatMap Ev.cells) ∧ Below w.heap.size w w' := by
  obtain ⟨lv, hlv, hown, _⟩ := hg.lg.ex
  have hown' := hown
  rcases hown.2 with ⟨rfl, h0⟩ | ⟨g, cap, cur, rfl, _, hb, h1, h2, h3, h4⟩
  · refine (log_list_none E.k w hlv).mono ?_
    rintro e w' ⟨rfl, hb⟩
    have hz : S.log = [] := List.length_eq_zero_iff.1 h0
    refine ⟨_, rfl, ?_, hb⟩
    rw [hz]
    exact World.ownsRow_nil _ _ _ _
  · exact log_list_some E.k g S.log.length cap _ w hlv hn (by omega) (flat_length _) (own_cells hown') (own_lt hown' (show _ = some g from rfl)) (by
      intro u hu
      obtain ⟨e, _, he⟩ := List.mem_flatMap.1 hu
      exact cells_one e u he)
end Go.Proofs.YtdemhabgaimnmaaGreatDoor
/- A machine of workers: New, a Tick. -/
namespace Go.Proofs.YtdemhabgaimnmaaGreatDoor
open Go.RowKit
set_option maxRecDepth 100000
set_option linter.unusedVariables false

/-- A machine of workers in memory. -/
structure Mach (E : G) (M T n : Nat) (k : Int) (L : Lab) (w : World) : Prop where
  m : w.heap[M]? = some (.cells #[.pointer (some ⟨E.k, 0, none⟩), .slice (some ⟨T, 0, none⟩) n n, .int .i64 k] 113)
  l : L M = 0
theorem Mach.below {E : G} {M T n : Nat} {k : Int} {L : Lab} {w w' : World} (h : Mach E M T n k L w) (hb : Below w.heap.size w w') : Mach E M T n k L w' := ⟨row_below hb h.m, h.l⟩
theorem Mach.shr {E : G} {M T n : Nat} {k : Int} {L L' : Lab} {w w' : World} (h : Mach E M T n k L w) (hs : Shr L w L' w') : Mach E M T n k L' w' :=
  ⟨(hs.block M (heap_lt0 h.m) (.inl h.l)).trans h.m, (hs.lab M (heap_lt0 h.m)).trans h.l⟩
theorem Good.off0 {E : G} {L : Lab} {S : St} {w w' : World} {b : Nat} (h : Good E L S w) (hL : L b = 0) (hp : b ≠ E.p) (hs : w'.heap.size = w.heap.size) (hk : ∀ k, k ≠ b → w'.heap[k]? = w.heap[k]?) : Good E L S w' := by
  have cell : ∀ (a : Addr) (v : Value), a.block ≠ b → w.cell? a = some v → w'.cell? a = some v := fun a v hne e => (World.cell?_of_block (hk _ hne)).trans e
  have froz : ∀ (a : Addr), a.block ≠ b → w'.frozen? a = w.frozen? a := fun a hne => World.frozen?_of_block (hk _ hne)
  have nk : E.k ≠ b := by intro e; have := h.lk; rw [e] at this; omega
  have na : E.a ≠ b := by intro e; have := h.la; rw [e] at this; omega
  have nc : E.c ≠ b := by intro e; have := h.lc; rw [e] at this; omega
  refine ⟨h.ok, cell _ _ nk h.k0, cell _ _ nk h.k1, h.pl.mono (hk _ (Ne.symm hp)), ⟨cell _ _ na h.ar.a0, cell _ _ na h.ar.a1, (froz _ na).trans h.ar.af, fun i hi => cell _ _ nc (h.ar.c0 i hi), fun i hi => (froz _ nc).trans (h.ar.cf i hi), h.ar.ne, h.ar.n2, h.ar.m64, h.ar.cnt2⟩, h.lg.below (hk _ nk) (fun g hg _ => ⟨hk _ (by intro e; rw [e] at hg; omega), rfl⟩), ?_, h.lk, h.lp, h.la, h.lc, fun b' hb => h.new b' (by rw [hs] at hb; exact hb), fun s hsl => ⟨(h.sv s hsl).1.below (hk _ (by intro e; have := (h.sv s hsl).1.lb; rw [e] at this; omega)) rfl (fun g hg _ => ⟨hk _ (by intro e; rw [e] at hg; omega), rfl⟩), (h.sv s hsl).2⟩⟩
  intro b' o v hv
  obtain ⟨r1, r2, r3⟩ := h.rg b' o v hv
  have nb : b' ≠ b := by intro e; rw [e] at r3; omega
  exact ⟨cell _ _ nb r1, (froz _ nb).trans r2, r3⟩
theorem Good.setLocal0 {E : G} {L : Lab} {S : St} {w : World} {b o : Nat} (h : Good E L S w) (hL : L b = 0) (hp : b ≠ E.p) (v : Value) : Good E L S (w.setCell ⟨b, o, none⟩ v) :=
  h.off0 hL hp (by simp [World.setCell]) fun k hk => Go.Deep.blk_setCell_other _ _ _ _ hk

theorem do_def (a b : Nat) (u : FrameMode) (w : World) (hc : w.cell? ⟨a, 0, none⟩ = some (.bool true)) :
    CallsD Tryz.prog 64 #[.pointer (some ⟨a, 0, none⟩), .pointer (some ⟨b, 0, none⟩)] u w fun e u' w' => u' = u ∧ (e = .returned (.tuple #[]) ∧ w' = w) := by
  go_enter_d Tryz.func64, Tryz.ntmps64
  go_wp2
  go_end0
  exact ⟨rfl, rfl⟩
set_option maxHeartbeats 4000000 in
theorem do_tick {E : G} {M T n : Nat} {k : Int} {L : Lab} {S : St} {w : World} (hg : Good E L S w) (hm : Mach E M T n k L w) (h0 : 0 < S.n) (hlt : S.m 0 < 1073741823) (hc : S.cnt + 1 ≤ 4611686018427387904) (hn : S.log.length ≤ 1099511627775) (hn1 : 1 ≤ n) (hn2 : n ≤ 64) :
    Calls Tryz.prog 48 #[.pointer (some ⟨M, 0, none⟩), .agg #[.int .i64 3, .int .i64 0, .int .i64 0, .int .i64 0, .int .i64 0, .int .i64 0, .int .i64 0, .int .i64 0]] w fun e w' => ∃ L', e = .returned (.bool true) ∧ Good E L' S.tick w' ∧ Mach E M T n k L' w' ∧ Shr L w L' w' := by
  have hpl := cell_lt hg.pl.c0
  have hMlt := heap_lt0 hm.m
  have hnew : ∀ b, w.heap.size ≤ b → L b = 0 := fun b hb => hg.new b hb
  have hB : Below w.heap.size w (((w.alloc (.cells #[.pointer (some ⟨M, 0, none⟩)] 78)).alloc (.cells #[.int .i64 3, .int .i64 0, .int .i64 0, .int .i64 0, .int .i64 0, .int .i64 0, .int .i64 0, .int .i64 0] 56)).alloc (.cells #[.bool false] 4)) := (((Below.refl _ _).alloc (Nat.le_refl _) _).alloc (by simp) _).alloc (by simp; omega) _
  have d0 : (((w.alloc (.cells #[.pointer (some ⟨M, 0, none⟩)] 78)).alloc (.cells #[.int .i64 3, .int .i64 0, .int .i64 0, .int .i64 0, .int .i64 0, .int .i64 0, .int .i64 0, .int .i64 0] 56)).alloc (.cells #[.bool false] 4)).cell? ⟨w.heap.size, 0, none⟩ = some (.pointer (some ⟨M, 0, none⟩)) := by go_simp
  have d1 : (((w.alloc (.cells #[.pointer (some ⟨M, 0, none⟩)] 78)).alloc (.cells #[.int .i64 3, .int .i64 0, .int .i64 0, .int .i64 0, .int .i64 0, .int .i64 0, .int .i64 0, .int .i64 0] 56)).alloc (.cells #[.bool false] 4)).cell? ⟨w.heap.size + 1, 0, none⟩ = some (.int .i64 3) := by go_simp
  have d2 : (((w.alloc (.cells #[.pointer (some ⟨M, 0, none⟩)] 78)).alloc (.cells #[.int .i64 3, .int .i64 0, .int .i64 0, .int .i64 0, .int .i64 0, .int .i64 0, .int .i64 0, .int .i64 0] 56)).alloc (.cells #[.bool false] 4)).cell? ⟨w.heap.size + 1, 1, none⟩ = some (.int .i64 0) := by go_simp
  have d3 : (((w.alloc (.cells #[.pointer (some ⟨M, 0, none⟩)] 78)).alloc (.cells #[.int .i64 3, .int .i64 0, .int .i64 0, .int .i64 0, .int .i64 0, .int .i64 0, .int .i64 0, .int .i64 0] 56)).alloc (.cells #[.bool false] 4)).cell? ⟨w.heap.size + 1 + 1, 0, none⟩ = some (.bool false) := by go_simp
  have f3 : (((w.alloc (.cells #[.pointer (some ⟨M, 0, none⟩)] 78)).alloc (.cells #[.int .i64 3, .int .i64 0, .int .i64 0, .int .i64 0, .int .i64 0, .int .i64 0, .int .i64 0, .int .i64 0] 56)).alloc (.cells #[.bool false] 4)).frozen? ⟨w.heap.size + 1 + 1, 0, none⟩ = false := by go_simp
  have hm3 := hm.below hB
  have HG := Go.Lib.hid (hg.below hB)
  have HM := Go.Lib.hid hm3
  have HB := Go.Lib.hid hB
  have d4 : (((w.alloc (.cells #[.pointer (some ⟨M, 0, none⟩)] 78)).alloc (.cells #[.int .i64 3, .int .i64 0, .int .i64 0, .int .i64 0, .int .i64 0, .int .i64 0, .int .i64 0, .int .i64 0] 56)).alloc (.cells #[.bool false] 4)).cell? ⟨M, 0, none⟩ = some (.pointer (some ⟨E.k, 0, none⟩)) := cell_of_row _ _ _ _ _ _ hm3.m
  have d5 : (((w.alloc (.cells #[.pointer (some ⟨M, 0, none⟩)] 78)).alloc (.cells #[.int .i64 3, .int .i64 0, .int .i64 0, .int .i64 0, .int .i64 0, .int .i64 0, .int .i64 0, .int .i64 0] 56)).alloc (.cells #[.bool false] 4)).cell? ⟨M, 1, none⟩ = some (.slice (some ⟨T, 0, none⟩) n n) := cell_of_row _ _ _ _ _ _ hm3.m
  clear hg hm hm3 hB
  have hn3 : (0 : Int) < (n : Int) := by omega
  go_enter_defers Tryz.func48, Tryz.ntmps48
  go_wp2_with fail
  generalize (((w.alloc (.cells #[.pointer (some ⟨M, 0, none⟩)] 78)).alloc (.cells #[.int .i64 3, .int .i64 0, .int .i64 0, .int .i64 0, .int .i64 0, .int .i64 0, .int .i64 0, .int .i64 0] 56)).alloc (.cells #[.bool false] 4)) = W3 at *
  go_quiet (fail)
  have HG4 := Go.Lib.hid (HG.out.below (below_drewN nq))
  have HM4 := Go.Lib.hid (HM.out.below (below_drewN nq))
  have HB4 := Go.Lib.hid (HB.out.trans ((below_drewN nq).mono HB.out.size))
  have d0' := below_cell (below_drewN (w := W3) nq) d0
  go_wp2_with fail
  have hl4 : L (w.heap.size + 1 + 1) = 0 := hnew _ (by omega)
  have r4 : (W3.drewN nq).cell? ⟨w.heap.size + 1 + 1, 0, none⟩ = some (.bool false) := below_cell (below_drewN nq) d3
  have r4b := cell_lt r4
  refine (core_tick HG4.out h0 hlt hc hn).mono ?_
  rintro e w5 ⟨L5, rfl, hg5, hs5⟩
  have e4 : w5.heap[w.heap.size + 1 + 1]? = (W3.drewN nq).heap[w.heap.size + 1 + 1]? := hs5.block _ r4b (.inl hl4)
  have d6 : w5.cell? ⟨w.heap.size + 1 + 1, 0, none⟩ = some (.bool false) := (World.cell?_of_block e4).trans r4
  have f6 : w5.frozen? ⟨w.heap.size + 1 + 1, 0, none⟩ = false := (World.frozen?_of_block e4).trans f3
  have e0 : w5.heap[w.heap.size]? = (W3.drewN nq).heap[w.heap.size]? := hs5.block _ (cell_lt d0') (.inl (hnew _ (Nat.le_refl _)))
  have d7 : w5.cell? ⟨w.heap.size, 0, none⟩ = some (.pointer (some ⟨M, 0, none⟩)) := (World.cell?_of_block e0).trans d0'
  have HG5 := Go.Lib.hid (hg5.setLocal0 (o := 0) (show L5 (w.heap.size + 1 + 1) = 0 from (hs5.lab _ r4b).trans hl4) (by omega) (.bool true))
  have HM5 := Go.Lib.hid (HM4.out.shr hs5)
  have HS5 := Go.Lib.hid ((Shr.of_below HB4.out L).trans hs5)
  clear hg5 hs5 e4 e0 d0 d1 d2 d3 d4 d5 f3 HG HM HB HG4 HM4 HB4 d0' r4 r4b
  go_wp2
  have c9 : (w5.setCell ⟨w.heap.size + 1 + 1, 0, none⟩ (.bool true)).cell? ⟨w.heap.size + 1 + 1, 0, none⟩ = some (.bool true) := World.cell?_setCell_same _ _ _ d6
  have h9 : Mach E M T n k L5 (w5.setCell ⟨w.heap.size + 1 + 1, 0, none⟩ (.bool true)) := ⟨(Go.Deep.blk_setCell_other w5 ⟨w.heap.size + 1 + 1, 0, none⟩ _ M (by show M ≠ w.heap.size + 1 + 1; omega)).trans HM5.out.m, HM5.out.l⟩
  have s9 : Shr L w L5 (w5.setCell ⟨w.heap.size + 1 + 1, 0, none⟩ (.bool true)) := ⟨HS5.out.os, HS5.out.tape, HS5.out.output, by have := HS5.out.size; simpa [World.setCell] using this, fun b hb hl => (Go.Deep.blk_setCell_other w5 ⟨w.heap.size + 1 + 1, 0, none⟩ _ b (by show b ≠ w.heap.size + 1 + 1; omega)).trans (HS5.out.block b hb hl), HS5.out.lab⟩
  generalize (w5.setCell ⟨w.heap.size + 1 + 1, 0, none⟩ (.bool true)) = w9 at *
  refine leaves_cons (f := 64) (args := #[.pointer (some ⟨w.heap.size + 1 + 1, 0, none⟩), .pointer (some ⟨w.heap.size, 0, none⟩)]) (by simp) (by simp [go_sem]) ?_
  refine (do_def _ _ .returning _ c9).mono ?_
  rintro e u' w'' ⟨rfl, rfl, rfl⟩
  exact ⟨_, by simp [results, Tryz.results48, go_sem, c9], L5, rfl, HG5.out, h9, s9⟩
theorem make_tasks (n : Nat) (h1 : n ≤ 1048576) (w : World) :
    (Instr.makeSlice 111 (.int .i64 n) (.int .i64 n)).run Tryz.prog w = .ok (.slice (some ⟨w.heap.size, 0, none⟩) n n) (w.alloc (.cells (madeCells #[.pointer none] n) 154)) := by
  have hz : (Tryz.prog.info? 154).map (fun i => (i.zero, i.size, i.bytes)) = some (some (.pointer none), 1, 8) := by kernel_rfl
  cases hi : Tryz.prog.info? 154 with
  | none => rw [hi] at hz; cases hz
  | some i => ?_
  rw [hi] at hz
  simp at hz
  obtain ⟨z1, z2, z3⟩ := hz
  have := run_make (P := Tryz.prog) w 111 154 i _ (by kernel_rfl) hi z1 .i64 .i64 n n (by omega) (by omega) (by rw [z3]; omega) (by omega)
  rw [this]
  simp [z2, Value.cells]
set_option maxHeartbeats 4000000 in
theorem sched_new (c : Cf) (hok : c.Ok) (w : World) :
    Calls Tryz.prog 31 #[.agg #[.int .i64 c.workers, .int .i64 c.levels, .int .i64 c.bits, .int .i64 c.nodes, .int .i64 c.tickets, .int .i64 c.slack, .int .i64 c.first, .int .i64 c.conns, .int .i64 c.timeout, .int .i64 c.base, .int .i64 c.cap, .int .i64 c.jitter, .int .i64 c.attempts]] w fun e w' => ∃ E L M T, e = .returned (.tuple #[.pointer (some ⟨M, 0, none⟩), .int .i64 0]) ∧ E.cf = c ∧ Good E L (S0 c) w' ∧ Mach E M T c.workers 0 L w' ∧ (∀ b, b < w.heap.size → L b = 0) ∧ Below w.heap.size w w' := by
  have HN := Go.Lib.hid (core_new c hok)
  have hb0 : Below w.heap.size w (w.alloc (.cells #[.int .i64 c.workers, .int .i64 c.levels, .int .i64 c.bits, .int .i64 c.nodes, .int .i64 c.tickets, .int .i64 c.slack, .int .i64 c.first, .int .i64 c.conns, .int .i64 c.timeout, .int .i64 c.base, .int .i64 c.cap, .int .i64 c.jitter, .int .i64 c.attempts] 29)) := (Below.refl _ _).alloc (Nat.le_refl _) _
  have HB0 := Go.Lib.hid hb0
  have HX := Go.Lib.hid (heap_alloc_new w (.cells #[.int .i64 c.workers, .int .i64 c.levels, .int .i64 c.bits, .int .i64 c.nodes, .int .i64 c.tickets, .int .i64 c.slack, .int .i64 c.first, .int .i64 c.conns, .int .i64 c.timeout, .int .i64 c.base, .int .i64 c.cap, .int .i64 c.jitter, .int .i64 c.attempts] 29))
  have hw1 := hok.w1
  have hw2 := hok.w2
  have hmk := fun W => make_tasks c.workers (by omega) W
  have HV : Hid (c.vals = #[.int .i64 c.workers, .int .i64 c.levels, .int .i64 c.bits, .int .i64 c.nodes, .int .i64 c.tickets, .int .i64 c.slack, .int .i64 c.first, .int .i64 c.conns, .int .i64 c.timeout, .int .i64 c.base, .int .i64 c.cap, .int .i64 c.jitter, .int .i64 c.attempts]) := Go.Lib.hid rfl
  clear hb0 hok
  go_enter Tryz.func31, Tryz.ntmps31
  go_wp2_with fail
  generalize (w.alloc (.cells #[.int .i64 c.workers, .int .i64 c.levels, .int .i64 c.bits, .int .i64 c.nodes, .int .i64 c.tickets, .int .i64 c.slack, .int .i64 c.first, .int .i64 c.conns, .int .i64 c.timeout, .int .i64 c.base, .int .i64 c.cap, .int .i64 c.jitter, .int .i64 c.attempts] 29)) = W0 at *
  refine (HN.out _).mono ?_
  rintro e w2 ⟨E, L, rfl, hborn⟩
  have hb2 := hborn.bl
  have c0 : w2.cell? ⟨w.heap.size, 0, none⟩ = some (.int .i64 c.workers) := cell_of_row _ _ _ _ _ _ (row_below hb2 HX.out)
  have HBN := Go.Lib.hid hborn
  have HB2 := Go.Lib.hid (HB0.out.trans (hb2.mono HB0.out.size))
  clear hb2 hborn
  go_wp2
  go_ret2
  have hb3 : Below w2.heap.size w2 ((w2.alloc (.cells (madeCells #[.pointer none] c.workers) 154)).alloc (.cells #[.pointer (some ⟨E.k, 0, none⟩), .slice (some ⟨w2.heap.size, 0, none⟩) c.workers c.workers, .int .i64 0] 113)) := ((Below.refl _ _).alloc (Nat.le_refl _) _).alloc (by simp) _
  have hm := heap_alloc_new (w2.alloc (.cells (madeCells #[.pointer none] c.workers) 154)) (.cells #[.pointer (some ⟨E.k, 0, none⟩), .slice (some ⟨w2.heap.size, 0, none⟩) c.workers c.workers, .int .i64 0] 113)
  rw [World.size_alloc] at hm
  exact ⟨E, L, w2.heap.size + 1, w2.heap.size, rfl, HBN.out.cf, HBN.out.good.below hb3, ⟨hm, HBN.out.good.new _ (by omega)⟩, fun b hb => HBN.out.old b (Nat.lt_of_lt_of_le hb HB0.out.size), HB2.out.trans (hb3.mono HB2.out.size)⟩
/-- A state behind so many Ticks. -/
def tickN (S : St) : Nat → St
  | 0 => S
  | j + 1 => (tickN S j).tick
theorem tickN_facts (S : St) : ∀ j, (tickN S j).n = S.n ∧ (tickN S j).m 0 = S.m 0 + j ∧ (tickN S j).cnt = S.cnt + j ∧ (tickN S j).log.length = S.log.length + j
  | 0 => ⟨rfl, rfl, rfl, rfl⟩
  | j + 1 => by
    obtain ⟨h1, h2, h3, h4⟩ := tickN_facts S j
    refine ⟨h1, ?_, ?_, ?_⟩
    · show (if 0 = 0 then (tickN S j).m 0 + 1 else (tickN S j).m 0) = _
      rw [if_pos rfl, h2]; omega
    · show (tickN S j).cnt + 1 = _
      rw [h3]; omega
    · show ((tickN S j).log ++ [_]).length = _
      rw [List.length_append, h4]; simp; omega
set_option maxHeartbeats 4000000 in
theorem run_ticks {E : G} {M T n : Nat} {k : Int} {L : Lab} {S : St} {w : World} {K : Nat → Prop} {v : Value} (t : Nat) (ht : t ≤ 100) (hv : KE K w v (List.replicate t tickE)) (hK : ∀ b, K b → b < w.heap.size ∧ L b = 0) (hg : Good E L S w) (hm : Mach E M T n k L w) (h0 : 0 < S.n) (hlt : S.m 0 < 1073741000) (hc : S.cnt ≤ 4611686018427380000) (hn : S.log.length ≤ 1099511620000) (hn1 : 1 ≤ n) (hn2 : n ≤ 64) :
    Calls Tryz.prog 32 #[.pointer (some ⟨M, 0, none⟩), v] w fun e w' => ∃ L', e = .returned (.int .i64 (t : Nat)) ∧ Good E L' (tickN S t) w' ∧ Mach E M T n k L' w' ∧ Shr L w L' w' := by
  obtain ⟨p, c, hvf⟩ := id (KE.form hv)
  rw [List.length_replicate] at hvf
  subst hvf
  have HV := Go.Lib.hid hv
  have HK := Go.Lib.hid hK
  have HG := Go.Lib.hid hg
  have HM := Go.Lib.hid hm
  have HTF := Go.Lib.hid (tickN_facts S)
  clear hv hK hg hm
  go_enter Tryz.func32, Tryz.ntmps32
  go_wp2
  go_loopw [5, 7, 10] (fun u5 u7 u10 wr => ∃ (j : Nat) (L' : Lab), u10 = .int .i64 (j : Nat) ∧ u5 = .int .i64 (j : Nat) ∧ j ≤ t ∧ Good E L' (tickN S j) wr ∧ Mach E M T n k L' wr ∧ Shr L w L' wr) (fun _ _ i _ => t - (intOf i).toNat)
  case atStart => exact ⟨0, L, rfl, rfl, Nat.zero_le _, HG.out, HM.out, Shr.refl _ _⟩
  case round =>
    obtain ⟨j, L1, rfl, rfl, hj, hg1, hm1, hs1⟩ := hrel
    have HG1 := Go.Lib.hid hg1
    have HM1 := Go.Lib.hid hm1
    have HS1 := Go.Lib.hid hs1
    clear hg1 hm1 hs1 HG HM
    by_cases hjt : j < t
    · obtain ⟨g, off, c', ee, hkg, hcell⟩ := KE.open HV.out (by rw [List.length_replicate]; omega)
      injection ee with e1 e2 e3
      clear e2
      subst e1
      subst e3
      have hge : (List.replicate t tickE)[j]? = some tickE := by rw [List.getElem?_replicate, if_pos hjt]
      have HC : Hid (∀ (i : Nat) (u : Value), tickE.cells[i]? = some u → wr.cell? ⟨g, off + j * 8 + i, none⟩ = some u) := Go.Lib.hid (fun i u hi => (World.cell?_of_block (HS1.out.block g (HK.out g hkg).1 (.inl (HK.out g hkg).2))).trans (hcell j _ hge i u hi))
      have c0 : wr.cell? ⟨g, off + j * 8, none⟩ = some (.int .i64 3) := HC.out 0 _ rfl
      have c1 : wr.cell? ⟨g, off + j * 8 + 1, none⟩ = some (.int .i64 0) := HC.out 1 _ rfl
      have c2 : wr.cell? ⟨g, off + j * 8 + 2, none⟩ = some (.int .i64 0) := HC.out 2 _ rfl
      have c3 : wr.cell? ⟨g, off + j * 8 + 3, none⟩ = some (.int .i64 0) := HC.out 3 _ rfl
      have c4 : wr.cell? ⟨g, off + j * 8 + 4, none⟩ = some (.int .i64 0) := HC.out 4 _ rfl
      have c5 : wr.cell? ⟨g, off + j * 8 + 5, none⟩ = some (.int .i64 0) := HC.out 5 _ rfl
      have c6 : wr.cell? ⟨g, off + j * 8 + 6, none⟩ = some (.int .i64 0) := HC.out 6 _ rfl
      have c7 : wr.cell? ⟨g, off + j * 8 + 7, none⟩ = some (.int .i64 0) := HC.out 7 _ rfl
      obtain ⟨t1, t2, t3, t4⟩ := HTF.out j
      have hb1 : (0 : Int) ≤ (j : Int) := by omega
      have hb2 : (j : Int) < (t : Int) := by omega
      have hal : Below wr.heap.size wr (wr.alloc (.cells #[.int .i64 3, .int .i64 0, .int .i64 0, .int .i64 0, .int .i64 0, .int .i64 0, .int .i64 0, .int .i64 0] 56)) := (Below.refl _ _).alloc (Nat.le_refl _) _
      have HDO := Go.Lib.hid (do_tick (HG1.out.below hal) (HM1.out.below hal) (by rw [t1]; exact h0) (by rw [t2]; omega) (by rw [t3]; omega) (by rw [t4]; omega) hn1 hn2)
      have HS2 := Go.Lib.hid (HS1.out.trans (Shr.of_below hal L1))
      clear t1 t2 t3 t4 hge hcell hal
      go_wp2_with fail
      refine HDO.out.mono ?_
      rintro e w5 ⟨L5, rfl, hg5, hm5, hs5⟩
      have HG5 := Go.Lib.hid hg5
      have HM5 := Go.Lib.hid hm5
      have HS5 := Go.Lib.hid (HS2.out.trans hs5)
      clear hg5 hm5 hs5 c0 c1 c2 c3 c4 c5 c6 c7
      go_wp2_with fail
      go_roundw
      case rel => exact ⟨j + 1, L5, by go_num, by go_num, by omega, HG5.out, HM5.out, HS5.out⟩
      case measure => simp [intOf]; omega
    · have hjt2 : j = t := by omega
      subst hjt2
      have hb1 : ((j : Int) < (j : Int)) = False := by simp
      go_wp2
      go_ret
      exact ⟨L1, rfl, HG1.out, HM1.out, HS1.out⟩
theorem m_Skipped {E : G} {M T n : Nat} {k : Int} {L : Lab} {w : World} (hm : Mach E M T n k L w) :
    Calls Tryz.prog 36 #[.pointer (some ⟨M, 0, none⟩)] w fun e w' => e = .returned (.int .i64 k) ∧ w' = w := by
  have c2 : w.cell? ⟨M, 2, none⟩ = some (.int .i64 k) := cell_of_row _ _ _ _ _ _ hm.m
  clear hm
  go_enter Tryz.func36, Tryz.ntmps36
  go_wp2
  go_ret
  exact ⟨rfl, rfl⟩
set_option maxHeartbeats 1000000 in
theorem m_History {E : G} {M T n : Nat} {k : Int} {L : Lab} {S : St} {w : World} (hg : Good E L S w) (hm : Mach E M T n k L w) (hn : S.log.length ≤ 1000000) :
    Calls Tryz.prog 33 #[.pointer (some ⟨M, 0, none⟩)] w fun e w' => ∃ v, e = .returned v ∧ w'.ownsRow w.heap.size 85 12 v S.log.length (S.log.flatMap Ev.cells) ∧ Below w.heap.size w w' := by
  have c0 : w.cell? ⟨M, 0, none⟩ = some (.pointer (some ⟨E.k, 0, none⟩)) := cell_of_row _ _ _ _ _ _ hm.m
  have HL := Go.Lib.hid (log_list hg hn)
  have HCL := Go.Lib.hid (core_log hg)
  clear hm hg
  go_enter Tryz.func33, Tryz.ntmps33
  go_wp2_with fail
  refine HCL.out.mono ?_
  rintro e w' ⟨rfl, rfl⟩
  go_wp2_with fail
  refine HL.out.mono ?_
  rintro e w2 ⟨v, rfl, ho, hb⟩
  have HO := Go.Lib.hid ho
  have HB := Go.Lib.hid hb
  clear ho hb
  go_wp2
  go_ret
  exact ⟨_, rfl, HO.out, HB.out⟩
/-- A digit's text. -/
def digS (i : Nat) : ByteArray := ⟨#[UInt8.ofNat (48 + i)]⟩
set_option maxHeartbeats 1000000 in
theorem small_digit (i : Nat) (h : i < 10) (w : World) : Calls Tryz.prog 93 #[.int .i64 i] w fun e w' => e = .returned (.string (digS i)) ∧ w' = w := by
  match i, h with
  | 0, _ | 1, _ | 2, _ | 3, _ | 4, _ | 5, _ | 6, _ | 7, _ | 8, _ | 9, _ =>
    go_enter Tryz.func93, Tryz.ntmps93
    go_wp2
    go_ret
    exact ⟨rfl, rfl⟩
set_option maxHeartbeats 1000000 in
theorem format_digit (i : Nat) (h : i < 10) (w : World) : Calls Tryz.prog 72 #[.int .i64 i, .int .i64 10] w fun e w' => e = .returned (.string (digS i)) ∧ w' = w := by
  have HS := Go.Lib.hid (small_digit i h w)
  have hi1 : (0 : Int) ≤ (i : Int) := by omega
  have hi2 : (i : Int) < 10 := by omega
  have hi3 : (i : Int) < 100 := by omega
  go_enter Tryz.func72, Tryz.ntmps72
  go_wp2_with fail
  refine HS.out.mono ?_
  rintro e w' ⟨rfl, rfl⟩
  go_wp2
  go_ret
  exact ⟨rfl, rfl⟩
set_option maxHeartbeats 1000000 in
theorem itoa0_digit (i : Nat) (h : i < 10) (w : World) : Calls Tryz.prog 54 #[.int .i64 i] w fun e w' => e = .returned (.string (digS i)) ∧ w' = w := by
  have HS := Go.Lib.hid (format_digit i h w)
  have hi1 : (0 : Int) ≤ (i : Int) := by omega
  have hi2 : (i : Int) < 10 := by omega
  have hi3 : (i : Int) < 100 := by omega
  go_enter Tryz.func54, Tryz.ntmps54
  go_wp2_with fail
  refine HS.out.mono ?_
  rintro e w' ⟨rfl, rfl⟩
  go_wp2
  go_ret
  exact ⟨rfl, rfl⟩
set_option maxHeartbeats 1000000 in
theorem itoa_digit (i : Nat) (h : i < 10) (w : World) : Calls Tryz.prog 35 #[.int .i64 i] w fun e w' => e = .returned (.string (digS i)) ∧ w' = w := by
  have HS := Go.Lib.hid (itoa0_digit i h w)
  have hi1 : (0 : Int) ≤ (i : Int) := by omega
  have hi2 : (i : Int) < 10 := by omega
  have hi3 : (i : Int) < 100 := by omega
  go_enter Tryz.func35, Tryz.ntmps35
  go_wp2_with fail
  refine HS.out.mono ?_
  rintro e w' ⟨rfl, rfl⟩
  go_wp2
  go_ret
  exact ⟨rfl, rfl⟩
end Go.Proofs.YtdemhabgaimnmaaGreatDoor
/- The text of a Tick. -/
namespace Go.Proofs.YtdemhabgaimnmaaGreatDoor
open Go.RowKit
set_option maxRecDepth 100000
set_option linter.unusedVariables false

set_option maxHeartbeats 1000000 in
theorem handle_zero (w : World) : Calls Tryz.prog 53 #[.agg #[.int .i64 0, .int .i64 0]] w fun e w' => e = .returned (.string ⟨#[48, 46, 48]⟩) ∧ Below w.heap.size w w' := by
  have HI : Hid (∀ W, Calls Tryz.prog 35 #[.int .i64 0] W fun e w' => e = .returned (.string ⟨#[48]⟩) ∧ w' = W) := Go.Lib.hid (fun W => itoa_digit 0 (by decide) W)
  go_enter Tryz.func53, Tryz.ntmps53
  go_wp2_with fail
  have d0 : (w.alloc (.cells #[.int .i64 0, .int .i64 0] 54)).cell? ⟨w.heap.size, 0, none⟩ = some (.int .i64 0) := by go_simp
  have d1 : (w.alloc (.cells #[.int .i64 0, .int .i64 0] 54)).cell? ⟨w.heap.size, 1, none⟩ = some (.int .i64 0) := by go_simp
  have HB := Go.Lib.hid ((Below.refl _ w).alloc (Nat.le_refl _) (.cells #[.int .i64 0, .int .i64 0] 54))
  generalize (w.alloc (.cells #[.int .i64 0, .int .i64 0] 54)) = W0 at *
  go_quiet ((go_at_call 35; refine Calls.quiet_of_same (HI.out _)))
  go_wp2
  go_ret
  exact ⟨by first | rfl | (congr 1), HB.out.trans ((below_drewN nq).mono HB.out.size)⟩

/-- What the slots hold while the texts are laid into a slice. -/
def tab14 (b T : Nat) : List (Nat × Nat × Value) := [(0, 48, .pointer (some ⟨b, 3, none⟩)), (1, 49, .agg #[.int .i64 0, .int .i64 0]), (2, 50, .string ⟨#[48, 46, 48]⟩), (3, 51, .pointer (some ⟨b, 5, none⟩)), (4, 52, .agg #[.int .i64 0, .int .i64 0]), (5, 53, .string ⟨#[48, 46, 48]⟩), (6, 54, .pointer (some ⟨b, 7, none⟩)), (7, 55, .int .i64 (T : Nat)), (8, 56, .string (digS T)), (9, 57, .pointer (some ⟨b, 8, none⟩)), (10, 58, .int .i64 0), (11, 59, .string ⟨#[48]⟩), (12, 60, .pointer (some ⟨b, 9, none⟩)), (13, 61, .int .i64 0), (14, 62, .string ⟨#[48]⟩), (15, 63, .string ⟨#[110, 111]⟩), (16, 64, .pointer (some ⟨b, 11, none⟩)), (17, 65, .int .i64 0), (18, 66, .string ⟨#[48]⟩)]
theorem tab14_r (b T : Nat) : (tab14 b T).map Prod.fst = List.range (tab14 b T).length := rfl
theorem tab14_n (b T : Nat) : ((tab14 b T).map fun p => p.2.1).Nodup := by
  show [48, 49, 50, 51, 52, 53, 54, 55, 56, 57, 58, 59, 60, 61, 62, 63, 64, 65, 66].Nodup
  decide
theorem tab14_19 (b T : Nat) : (tab14 b T).all (fun p => decide (p.1 ≠ 19 ∧ p.2.1 ≠ 67)) = true := rfl
theorem tab14_20 (b T : Nat) : (tab14 b T).all (fun p => decide (p.1 ≠ 20 ∧ p.2.1 ≠ 68)) = true := rfl
theorem tab14_21 (b T : Nat) : (tab14 b T).all (fun p => decide (p.1 ≠ 21 ∧ p.2.1 ≠ 69)) = true := rfl
structure J14 (w0 : World) (T : Nat) (listed : Array Bool) (a : Act) (w : World) : Prop where
  bw : Below w0.heap.size w0 w
  al : listed.getD 19 true = true → ∃ g, slotOf a 67 = .slice (some ⟨g, 0, none⟩) 7 7 ∧ w.heap[g]? = some (.cells #[.string ⟨#[48, 46, 48]⟩, .string ⟨#[48, 46, 48]⟩, .string (digS T), .string ⟨#[48]⟩, .string ⟨#[48]⟩, .string ⟨#[110, 111]⟩, .string ⟨#[48]⟩] 9)
  ln : listed.getD 20 true = true → slotOf a 68 = .int .i64 7
  z : listed.getD 21 true = true → slotOf a 69 = .int .i64 0
theorem J14.quiet {w0 : World} {T : Nat} {listed : Array Bool} {a : Act} {w w' : World} {i d : Nat} {v : Value} (h : J14 w0 T listed a w) (hi : i ≠ 19 ∧ i ≠ 20 ∧ i ≠ 21) (hd : d ≠ 67 ∧ d ≠ 68 ∧ d ≠ 69) (hb : Below w.heap.size w w') :
    J14 w0 T (listed.setIfInBounds i true) (a.put (some d) v) w' := by
  refine ⟨h.bw.trans (hb.mono h.bw.size), ?_, ?_, ?_⟩
  · rw [getD_set_other _ (Ne.symm hi.1), slot_put_other (Ne.symm hd.1)]
    intro q
    obtain ⟨g, e, hr⟩ := h.al q
    exact ⟨g, e, row_below hb hr⟩
  · rw [getD_set_other _ (Ne.symm hi.2.1), slot_put_other (Ne.symm hd.2.1)]; exact h.ln
  · rw [getD_set_other _ (Ne.symm hi.2.2), slot_put_other (Ne.symm hd.2.2)]; exact h.z
theorem J14.alloc {w0 : World} {T : Nat} {listed : Array Bool} {a : Act} {w : World} (h : J14 w0 T listed a w) (hds : 67 < a.tmps.size) :
    J14 w0 T (listed.setIfInBounds 19 true) (a.put (some 67) (.slice (some ⟨w.heap.size, 0, none⟩) 7 7)) (w.alloc (.cells #[.string ⟨#[48, 46, 48]⟩, .string ⟨#[48, 46, 48]⟩, .string (digS T), .string ⟨#[48]⟩, .string ⟨#[48]⟩, .string ⟨#[110, 111]⟩, .string ⟨#[48]⟩] 9)) := by
  have hb : Below w.heap.size w (w.alloc (.cells #[.string ⟨#[48, 46, 48]⟩, .string ⟨#[48, 46, 48]⟩, .string (digS T), .string ⟨#[48]⟩, .string ⟨#[48]⟩, .string ⟨#[110, 111]⟩, .string ⟨#[48]⟩] 9)) := (Below.refl _ _).alloc (Nat.le_refl _) _
  refine ⟨h.bw.trans (hb.mono h.bw.size), fun _ => ⟨w.heap.size, slot_put_same hds, heap_alloc_new w _⟩, ?_, ?_⟩
  · rw [getD_set_other _ (by decide), slot_put_other (by decide)]; exact h.ln
  · rw [getD_set_other _ (by decide), slot_put_other (by decide)]; exact h.z
theorem J14.len {w0 : World} {T : Nat} {listed : Array Bool} {a : Act} {w : World} (h : J14 w0 T listed a w) (hds : 68 < a.tmps.size) :
    J14 w0 T (listed.setIfInBounds 20 true) (a.put (some 68) (.int .i64 7)) w := by
  refine ⟨h.bw, ?_, fun _ => slot_put_same hds, ?_⟩
  · rw [getD_set_other _ (by decide), slot_put_other (by decide)]; exact h.al
  · rw [getD_set_other _ (by decide), slot_put_other (by decide)]; exact h.z
theorem J14.zero {w0 : World} {T : Nat} {listed : Array Bool} {a : Act} {w : World} (h : J14 w0 T listed a w) (hds : 69 < a.tmps.size) :
    J14 w0 T (listed.setIfInBounds 21 true) (a.put (some 69) (.int .i64 0)) w := by
  refine ⟨h.bw, ?_, ?_, fun _ => slot_put_same hds⟩
  · rw [getD_set_other _ (by decide), slot_put_other (by decide)]; exact h.al
  · rw [getD_set_other _ (by decide), slot_put_other (by decide)]; exact h.ln
/-- A Tick's text. -/
def lineT (T : Nat) : ByteArray := ⟨#[116, 105, 99, 107]⟩ ++ (⟨#[32]⟩ ++ digS T)
set_option maxHeartbeats 4000000 in
theorem line_tick (T : Nat) (hT : T < 10) (w : World) : Calls Tryz.prog 34 #[.agg #[.int .i64 1, .int .i64 0, .int .i64 0, .int .i64 0, .int .i64 0, .int .i64 0, .int .i64 0, .int .i64 (T : Nat), .int .i64 0, .int .i64 0, .bool false, .int .i64 0]] w fun e w' => e = .returned (.string (lineT T)) ∧ Below w.heap.size w w' := by
  have HR := Go.Lib.hid (fun W => tick_right (T : Nat) (by omega) W)
  have HF := Go.Lib.hid (fun W => tick_fields (T : Nat) W)
  have HI0 : Hid (∀ W, Calls Tryz.prog 35 #[.int .i64 0] W fun e w' => e = .returned (.string ⟨#[48]⟩) ∧ w' = W) := Go.Lib.hid (fun W => itoa_digit 0 (by decide) W)
  have HIT := Go.Lib.hid (fun W => itoa_digit T hT W)
  have HH := Go.Lib.hid (fun W => handle_zero W)
  have HB := Go.Lib.hid ((Below.refl _ w).alloc (Nat.le_refl _) (.cells #[.int .i64 1, .int .i64 0, .int .i64 0, .int .i64 0, .int .i64 0, .int .i64 0, .int .i64 0, .int .i64 (T : Nat), .int .i64 0, .int .i64 0, .bool false, .int .i64 0] 85))
  have hr := heap_alloc_new w (.cells #[.int .i64 1, .int .i64 0, .int .i64 0, .int .i64 0, .int .i64 0, .int .i64 0, .int .i64 0, .int .i64 (T : Nat), .int .i64 0, .int .i64 0, .bool false, .int .i64 0] 85)
  have c0 : (w.alloc (.cells #[.int .i64 1, .int .i64 0, .int .i64 0, .int .i64 0, .int .i64 0, .int .i64 0, .int .i64 0, .int .i64 (T : Nat), .int .i64 0, .int .i64 0, .bool false, .int .i64 0] 85)).cell? ⟨w.heap.size, 0, none⟩ = some (.int .i64 1) := cell_of_row _ _ _ _ _ _ hr
  have c1 : (w.alloc (.cells #[.int .i64 1, .int .i64 0, .int .i64 0, .int .i64 0, .int .i64 0, .int .i64 0, .int .i64 0, .int .i64 (T : Nat), .int .i64 0, .int .i64 0, .bool false, .int .i64 0] 85)).cell? ⟨w.heap.size, 1, none⟩ = some (.int .i64 0) := cell_of_row _ _ _ _ _ _ hr
  have c2 : (w.alloc (.cells #[.int .i64 1, .int .i64 0, .int .i64 0, .int .i64 0, .int .i64 0, .int .i64 0, .int .i64 0, .int .i64 (T : Nat), .int .i64 0, .int .i64 0, .bool false, .int .i64 0] 85)).cell? ⟨w.heap.size, 2, none⟩ = some (.int .i64 0) := cell_of_row _ _ _ _ _ _ hr
  have c3 : (w.alloc (.cells #[.int .i64 1, .int .i64 0, .int .i64 0, .int .i64 0, .int .i64 0, .int .i64 0, .int .i64 0, .int .i64 (T : Nat), .int .i64 0, .int .i64 0, .bool false, .int .i64 0] 85)).cell? ⟨w.heap.size, 3, none⟩ = some (.int .i64 0) := cell_of_row _ _ _ _ _ _ hr
  have c4 : (w.alloc (.cells #[.int .i64 1, .int .i64 0, .int .i64 0, .int .i64 0, .int .i64 0, .int .i64 0, .int .i64 0, .int .i64 (T : Nat), .int .i64 0, .int .i64 0, .bool false, .int .i64 0] 85)).cell? ⟨w.heap.size, 4, none⟩ = some (.int .i64 0) := cell_of_row _ _ _ _ _ _ hr
  have c5 : (w.alloc (.cells #[.int .i64 1, .int .i64 0, .int .i64 0, .int .i64 0, .int .i64 0, .int .i64 0, .int .i64 0, .int .i64 (T : Nat), .int .i64 0, .int .i64 0, .bool false, .int .i64 0] 85)).cell? ⟨w.heap.size, 5, none⟩ = some (.int .i64 0) := cell_of_row _ _ _ _ _ _ hr
  have c6 : (w.alloc (.cells #[.int .i64 1, .int .i64 0, .int .i64 0, .int .i64 0, .int .i64 0, .int .i64 0, .int .i64 0, .int .i64 (T : Nat), .int .i64 0, .int .i64 0, .bool false, .int .i64 0] 85)).cell? ⟨w.heap.size, 6, none⟩ = some (.int .i64 0) := cell_of_row _ _ _ _ _ _ hr
  have c7 : (w.alloc (.cells #[.int .i64 1, .int .i64 0, .int .i64 0, .int .i64 0, .int .i64 0, .int .i64 0, .int .i64 0, .int .i64 (T : Nat), .int .i64 0, .int .i64 0, .bool false, .int .i64 0] 85)).cell? ⟨w.heap.size, 7, none⟩ = some (.int .i64 (T : Nat)) := cell_of_row _ _ _ _ _ _ hr
  have c8 : (w.alloc (.cells #[.int .i64 1, .int .i64 0, .int .i64 0, .int .i64 0, .int .i64 0, .int .i64 0, .int .i64 0, .int .i64 (T : Nat), .int .i64 0, .int .i64 0, .bool false, .int .i64 0] 85)).cell? ⟨w.heap.size, 8, none⟩ = some (.int .i64 0) := cell_of_row _ _ _ _ _ _ hr
  have c9 : (w.alloc (.cells #[.int .i64 1, .int .i64 0, .int .i64 0, .int .i64 0, .int .i64 0, .int .i64 0, .int .i64 0, .int .i64 (T : Nat), .int .i64 0, .int .i64 0, .bool false, .int .i64 0] 85)).cell? ⟨w.heap.size, 9, none⟩ = some (.int .i64 0) := cell_of_row _ _ _ _ _ _ hr
  have c10 : (w.alloc (.cells #[.int .i64 1, .int .i64 0, .int .i64 0, .int .i64 0, .int .i64 0, .int .i64 0, .int .i64 0, .int .i64 (T : Nat), .int .i64 0, .int .i64 0, .bool false, .int .i64 0] 85)).cell? ⟨w.heap.size, 10, none⟩ = some (.bool false) := cell_of_row _ _ _ _ _ _ hr
  have c11 : (w.alloc (.cells #[.int .i64 1, .int .i64 0, .int .i64 0, .int .i64 0, .int .i64 0, .int .i64 0, .int .i64 0, .int .i64 (T : Nat), .int .i64 0, .int .i64 0, .bool false, .int .i64 0] 85)).cell? ⟨w.heap.size, 11, none⟩ = some (.int .i64 0) := cell_of_row _ _ _ _ _ _ hr
  have HX := Go.Lib.hid hr
  clear hr
  go_enter Tryz.func34, Tryz.ntmps34
  go_wp2_with fail
  generalize (w.alloc (.cells #[.int .i64 1, .int .i64 0, .int .i64 0, .int .i64 0, .int .i64 0, .int .i64 0, .int .i64 0, .int .i64 (T : Nat), .int .i64 0, .int .i64 0, .bool false, .int .i64 0] 85)) = W0 at *
  refine (HR.out _).mono ?_
  rintro e w2 ⟨rfl, hb2⟩
  have hr2 := row_below hb2 HX.out
  have HB2 := Go.Lib.hid (HB.out.trans (hb2.mono HB.out.size))
  clear c0 c1 c2 c3 c4 c5 c6 c7 c8 c9 c10 c11 hb2 HB HX
  have c0 : w2.cell? ⟨w.heap.size, 0, none⟩ = some (.int .i64 1) := cell_of_row _ _ _ _ _ _ hr2
  have c1 : w2.cell? ⟨w.heap.size, 1, none⟩ = some (.int .i64 0) := cell_of_row _ _ _ _ _ _ hr2
  have c2 : w2.cell? ⟨w.heap.size, 2, none⟩ = some (.int .i64 0) := cell_of_row _ _ _ _ _ _ hr2
  have c3 : w2.cell? ⟨w.heap.size, 3, none⟩ = some (.int .i64 0) := cell_of_row _ _ _ _ _ _ hr2
  have c4 : w2.cell? ⟨w.heap.size, 4, none⟩ = some (.int .i64 0) := cell_of_row _ _ _ _ _ _ hr2
  have c5 : w2.cell? ⟨w.heap.size, 5, none⟩ = some (.int .i64 0) := cell_of_row _ _ _ _ _ _ hr2
  have c6 : w2.cell? ⟨w.heap.size, 6, none⟩ = some (.int .i64 0) := cell_of_row _ _ _ _ _ _ hr2
  have c7 : w2.cell? ⟨w.heap.size, 7, none⟩ = some (.int .i64 (T : Nat)) := cell_of_row _ _ _ _ _ _ hr2
  have c8 : w2.cell? ⟨w.heap.size, 8, none⟩ = some (.int .i64 0) := cell_of_row _ _ _ _ _ _ hr2
  have c9 : w2.cell? ⟨w.heap.size, 9, none⟩ = some (.int .i64 0) := cell_of_row _ _ _ _ _ _ hr2
  have c10 : w2.cell? ⟨w.heap.size, 10, none⟩ = some (.bool false) := cell_of_row _ _ _ _ _ _ hr2
  have c11 : w2.cell? ⟨w.heap.size, 11, none⟩ = some (.int .i64 0) := cell_of_row _ _ _ _ _ _ hr2
  have HX2 := Go.Lib.hid hr2
  have hz := heap_lt0 hr2
  clear hr2
  go_wp2_with fail
  refine (HF.out _).mono ?_
  rintro e w3 ⟨rfl, hb3⟩
  have hbq : Below w2.heap.size w2 w3 := (((Below.refl _ _).alloc (Nat.le_refl _) _).alloc (by simp) _).trans (hb3.mono (by simp; omega))
  have hr3 := row_below hbq HX2.out
  have HB3 := Go.Lib.hid (HB2.out.trans (hbq.mono HB2.out.size))
  clear hb3 hbq c0 c1 c2 c3 c4 c5 c6 c7 c8 c9 c10 c11 HX2 HB2 hz
  have c0 : w3.cell? ⟨w.heap.size, 0, none⟩ = some (.int .i64 1) := cell_of_row _ _ _ _ _ _ hr3
  have c1 : w3.cell? ⟨w.heap.size, 1, none⟩ = some (.int .i64 0) := cell_of_row _ _ _ _ _ _ hr3
  have c2 : w3.cell? ⟨w.heap.size, 2, none⟩ = some (.int .i64 0) := cell_of_row _ _ _ _ _ _ hr3
  have c3 : w3.cell? ⟨w.heap.size, 3, none⟩ = some (.int .i64 0) := cell_of_row _ _ _ _ _ _ hr3
  have c4 : w3.cell? ⟨w.heap.size, 4, none⟩ = some (.int .i64 0) := cell_of_row _ _ _ _ _ _ hr3
  have c5 : w3.cell? ⟨w.heap.size, 5, none⟩ = some (.int .i64 0) := cell_of_row _ _ _ _ _ _ hr3
  have c6 : w3.cell? ⟨w.heap.size, 6, none⟩ = some (.int .i64 0) := cell_of_row _ _ _ _ _ _ hr3
  have c7 : w3.cell? ⟨w.heap.size, 7, none⟩ = some (.int .i64 (T : Nat)) := cell_of_row _ _ _ _ _ _ hr3
  have c8 : w3.cell? ⟨w.heap.size, 8, none⟩ = some (.int .i64 0) := cell_of_row _ _ _ _ _ _ hr3
  have c9 : w3.cell? ⟨w.heap.size, 9, none⟩ = some (.int .i64 0) := cell_of_row _ _ _ _ _ _ hr3
  have c10 : w3.cell? ⟨w.heap.size, 10, none⟩ = some (.bool false) := cell_of_row _ _ _ _ _ _ hr3
  have c11 : w3.cell? ⟨w.heap.size, 11, none⟩ = some (.int .i64 0) := cell_of_row _ _ _ _ _ _ hr3
  have HX3 := Go.Lib.hid hr3
  clear hr3
  go_wp2_with fail
  go_cut [67, 68, 69] from 48 to 66 (fun x y z wx => ∃ g, x = .slice (some ⟨g, 0, none⟩) 7 7 ∧ y = .int .i64 7 ∧ z = .int .i64 0 ∧ wx.heap[g]? = some (.cells #[.string ⟨#[48, 46, 48]⟩, .string ⟨#[48, 46, 48]⟩, .string (digS T), .string ⟨#[48]⟩, .string ⟨#[48]⟩, .string ⟨#[110, 111]⟩, .string ⟨#[48]⟩] 9) ∧ Below w3.heap.size w3 wx)
  case first =>
    rename_i J1 K1 hJ1 hK1
    refine wp_region_fr [48, 49, 50, 51, 52, 53, 54, 55, 56, 57, 58, 59, 60, 61, 62, 63, 64, 65, 66, 67, 68, 69] (tab14 w.heap.size T) (J14 w3 T) (by kernel_rfl) (by kernel_rfl) (by kernel_rfl) ⟨(Below.refl _ _).drew, fun q => by simp at q, fun q => by simp at q, fun q => by simp at q⟩ ?_ ?_
    · refine ⟨?_, ?_, ?_, ?_, ?_, ?_, ?_, ?_, ?_, ?_, ?_, ?_, ?_, ?_, ?_, ?_, ?_, ?_, ?_, ?_, ?_, ?_, trivial⟩
      · intro listed a' w' hf hv hj hun hdep K hK
        have hsz : a'.tmps.size = 85 := hf.size
        have e1 : slotOf a' 1 = .pointer (some ⟨w.heap.size, 0, none⟩) := (hf.rest 1 (by decide)).trans rfl
        refine st_gen rfl ?_
        unfold Oper.wp execOp
        dsimp only
        rw [slot_eval, e1]
        go_simp
        exact hK _ _ (hf.put (by decide)) (hv.done (tab14_r _ _) (tab14_n _ _) rfl (by rw [hsz]; decide)) (hj.quiet (by decide) (by decide) (Below.refl _ _))
      · intro listed a' w' hf hv hj hun hdep K hK
        have hsz : a'.tmps.size = 85 := hf.size
        have e48 := hv.get 0 rfl (hdep 0 (by kernel_rfl))
        have q3 : w'.cell? ⟨w.heap.size, 3, none⟩ = some (.int .i64 0) := below_cell hj.bw c3
        have q4 : w'.cell? ⟨w.heap.size, 4, none⟩ = some (.int .i64 0) := below_cell hj.bw c4
        refine st_gen rfl ?_
        unfold Oper.wp execOp
        dsimp only
        rw [slot_eval, e48]
        go_simp
        exact hK _ _ (hf.put (by decide)) (hv.done (tab14_r _ _) (tab14_n _ _) rfl (by rw [hsz]; decide)) (hj.quiet (by decide) (by decide) (Below.refl _ _))
      · intro listed a' w' hf hv hj hun hdep K hK
        have hsz : a'.tmps.size = 85 := hf.size
        have e49 := hv.get 1 rfl (hdep 1 (by kernel_rfl))
        refine st_call #[.agg #[.int .i64 0, .int .i64 0]] rfl (enters_of Tryz.func53 (by kernel_rfl) rfl) (by simp [slot_eval, e49]) ?_
        refine (HH.out _).mono ?_
        rintro e w2 ⟨rfl, hb⟩
        exact ⟨_, rfl, hK _ _ (hf.put (by decide)) (hv.done (tab14_r _ _) (tab14_n _ _) rfl (by rw [hsz]; decide)) (hj.quiet (by decide) (by decide) hb)⟩
      · intro listed a' w' hf hv hj hun hdep K hK
        have hsz : a'.tmps.size = 85 := hf.size
        have e1 : slotOf a' 1 = .pointer (some ⟨w.heap.size, 0, none⟩) := (hf.rest 1 (by decide)).trans rfl
        refine st_gen rfl ?_
        unfold Oper.wp execOp
        dsimp only
        rw [slot_eval, e1]
        go_simp
        exact hK _ _ (hf.put (by decide)) (hv.done (tab14_r _ _) (tab14_n _ _) rfl (by rw [hsz]; decide)) (hj.quiet (by decide) (by decide) (Below.refl _ _))
      · intro listed a' w' hf hv hj hun hdep K hK
        have hsz : a'.tmps.size = 85 := hf.size
        have e51 := hv.get 3 rfl (hdep 3 (by kernel_rfl))
        have q5 : w'.cell? ⟨w.heap.size, 5, none⟩ = some (.int .i64 0) := below_cell hj.bw c5
        have q6 : w'.cell? ⟨w.heap.size, 6, none⟩ = some (.int .i64 0) := below_cell hj.bw c6
        refine st_gen rfl ?_
        unfold Oper.wp execOp
        dsimp only
        rw [slot_eval, e51]
        go_simp
        exact hK _ _ (hf.put (by decide)) (hv.done (tab14_r _ _) (tab14_n _ _) rfl (by rw [hsz]; decide)) (hj.quiet (by decide) (by decide) (Below.refl _ _))
      · intro listed a' w' hf hv hj hun hdep K hK
        have hsz : a'.tmps.size = 85 := hf.size
        have e52 := hv.get 4 rfl (hdep 4 (by kernel_rfl))
        refine st_call #[.agg #[.int .i64 0, .int .i64 0]] rfl (enters_of Tryz.func53 (by kernel_rfl) rfl) (by simp [slot_eval, e52]) ?_
        refine (HH.out _).mono ?_
        rintro e w2 ⟨rfl, hb⟩
        exact ⟨_, rfl, hK _ _ (hf.put (by decide)) (hv.done (tab14_r _ _) (tab14_n _ _) rfl (by rw [hsz]; decide)) (hj.quiet (by decide) (by decide) hb)⟩
      · intro listed a' w' hf hv hj hun hdep K hK
        have hsz : a'.tmps.size = 85 := hf.size
        have e1 : slotOf a' 1 = .pointer (some ⟨w.heap.size, 0, none⟩) := (hf.rest 1 (by decide)).trans rfl
        refine st_gen rfl ?_
        unfold Oper.wp execOp
        dsimp only
        rw [slot_eval, e1]
        go_simp
        exact hK _ _ (hf.put (by decide)) (hv.done (tab14_r _ _) (tab14_n _ _) rfl (by rw [hsz]; decide)) (hj.quiet (by decide) (by decide) (Below.refl _ _))
      · intro listed a' w' hf hv hj hun hdep K hK
        have hsz : a'.tmps.size = 85 := hf.size
        have e54 := hv.get 6 rfl (hdep 6 (by kernel_rfl))
        have q7 : w'.cell? ⟨w.heap.size, 7, none⟩ = some (.int .i64 (T : Nat)) := below_cell hj.bw c7
        refine st_gen rfl ?_
        unfold Oper.wp execOp
        dsimp only
        rw [slot_eval, e54]
        go_simp
        exact hK _ _ (hf.put (by decide)) (hv.done (tab14_r _ _) (tab14_n _ _) rfl (by rw [hsz]; decide)) (hj.quiet (by decide) (by decide) (Below.refl _ _))
      · intro listed a' w' hf hv hj hun hdep K hK
        have hsz : a'.tmps.size = 85 := hf.size
        have e55 := hv.get 7 rfl (hdep 7 (by kernel_rfl))
        refine st_call #[.int .i64 (T : Nat)] rfl (enters_of Tryz.func35 (by kernel_rfl) rfl) (by simp [slot_eval, e55]) ?_
        refine (HIT.out _).mono ?_
        rintro e w2 ⟨rfl, rfl⟩
        exact ⟨_, rfl, hK _ _ (hf.put (by decide)) (hv.done (tab14_r _ _) (tab14_n _ _) rfl (by rw [hsz]; decide)) (hj.quiet (by decide) (by decide) (Below.refl _ _))⟩
      · intro listed a' w' hf hv hj hun hdep K hK
        have hsz : a'.tmps.size = 85 := hf.size
        have e1 : slotOf a' 1 = .pointer (some ⟨w.heap.size, 0, none⟩) := (hf.rest 1 (by decide)).trans rfl
        refine st_gen rfl ?_
        unfold Oper.wp execOp
        dsimp only
        rw [slot_eval, e1]
        go_simp
        exact hK _ _ (hf.put (by decide)) (hv.done (tab14_r _ _) (tab14_n _ _) rfl (by rw [hsz]; decide)) (hj.quiet (by decide) (by decide) (Below.refl _ _))
      · intro listed a' w' hf hv hj hun hdep K hK
        have hsz : a'.tmps.size = 85 := hf.size
        have e57 := hv.get 9 rfl (hdep 9 (by kernel_rfl))
        have q8 : w'.cell? ⟨w.heap.size, 8, none⟩ = some (.int .i64 0) := below_cell hj.bw c8
        refine st_gen rfl ?_
        unfold Oper.wp execOp
        dsimp only
        rw [slot_eval, e57]
        go_simp
        exact hK _ _ (hf.put (by decide)) (hv.done (tab14_r _ _) (tab14_n _ _) rfl (by rw [hsz]; decide)) (hj.quiet (by decide) (by decide) (Below.refl _ _))
      · intro listed a' w' hf hv hj hun hdep K hK
        have hsz : a'.tmps.size = 85 := hf.size
        have e58 := hv.get 10 rfl (hdep 10 (by kernel_rfl))
        refine st_call #[.int .i64 0] rfl (enters_of Tryz.func35 (by kernel_rfl) rfl) (by simp [slot_eval, e58]) ?_
        refine (HI0.out _).mono ?_
        rintro e w2 ⟨rfl, rfl⟩
        exact ⟨_, rfl, hK _ _ (hf.put (by decide)) (hv.done (tab14_r _ _) (tab14_n _ _) rfl (by rw [hsz]; decide)) (hj.quiet (by decide) (by decide) (Below.refl _ _))⟩
      · intro listed a' w' hf hv hj hun hdep K hK
        have hsz : a'.tmps.size = 85 := hf.size
        have e1 : slotOf a' 1 = .pointer (some ⟨w.heap.size, 0, none⟩) := (hf.rest 1 (by decide)).trans rfl
        refine st_gen rfl ?_
        unfold Oper.wp execOp
        dsimp only
        rw [slot_eval, e1]
        go_simp
        exact hK _ _ (hf.put (by decide)) (hv.done (tab14_r _ _) (tab14_n _ _) rfl (by rw [hsz]; decide)) (hj.quiet (by decide) (by decide) (Below.refl _ _))
      · intro listed a' w' hf hv hj hun hdep K hK
        have hsz : a'.tmps.size = 85 := hf.size
        have e60 := hv.get 12 rfl (hdep 12 (by kernel_rfl))
        have q9 : w'.cell? ⟨w.heap.size, 9, none⟩ = some (.int .i64 0) := below_cell hj.bw c9
        refine st_gen rfl ?_
        unfold Oper.wp execOp
        dsimp only
        rw [slot_eval, e60]
        go_simp
        exact hK _ _ (hf.put (by decide)) (hv.done (tab14_r _ _) (tab14_n _ _) rfl (by rw [hsz]; decide)) (hj.quiet (by decide) (by decide) (Below.refl _ _))
      · intro listed a' w' hf hv hj hun hdep K hK
        have hsz : a'.tmps.size = 85 := hf.size
        have e61 := hv.get 13 rfl (hdep 13 (by kernel_rfl))
        refine st_call #[.int .i64 0] rfl (enters_of Tryz.func35 (by kernel_rfl) rfl) (by simp [slot_eval, e61]) ?_
        refine (HI0.out _).mono ?_
        rintro e w2 ⟨rfl, rfl⟩
        exact ⟨_, rfl, hK _ _ (hf.put (by decide)) (hv.done (tab14_r _ _) (tab14_n _ _) rfl (by rw [hsz]; decide)) (hj.quiet (by decide) (by decide) (Below.refl _ _))⟩
      · intro listed a' w' hf hv hj hun hdep K hK
        have hsz : a'.tmps.size = 85 := hf.size
        refine st_move _ rfl ((hf.rest 8 (by decide)).trans rfl) ?_
        exact hK _ _ (hf.put (by decide)) (hv.done (tab14_r _ _) (tab14_n _ _) rfl (by rw [hsz]; decide)) (hj.quiet (by decide) (by decide) (Below.refl _ _))
      · intro listed a' w' hf hv hj hun hdep K hK
        have hsz : a'.tmps.size = 85 := hf.size
        have e1 : slotOf a' 1 = .pointer (some ⟨w.heap.size, 0, none⟩) := (hf.rest 1 (by decide)).trans rfl
        refine st_gen rfl ?_
        unfold Oper.wp execOp
        dsimp only
        rw [slot_eval, e1]
        go_simp
        exact hK _ _ (hf.put (by decide)) (hv.done (tab14_r _ _) (tab14_n _ _) rfl (by rw [hsz]; decide)) (hj.quiet (by decide) (by decide) (Below.refl _ _))
      · intro listed a' w' hf hv hj hun hdep K hK
        have hsz : a'.tmps.size = 85 := hf.size
        have e64 := hv.get 16 rfl (hdep 16 (by kernel_rfl))
        have q11 : w'.cell? ⟨w.heap.size, 11, none⟩ = some (.int .i64 0) := below_cell hj.bw c11
        refine st_gen rfl ?_
        unfold Oper.wp execOp
        dsimp only
        rw [slot_eval, e64]
        go_simp
        exact hK _ _ (hf.put (by decide)) (hv.done (tab14_r _ _) (tab14_n _ _) rfl (by rw [hsz]; decide)) (hj.quiet (by decide) (by decide) (Below.refl _ _))
      · intro listed a' w' hf hv hj hun hdep K hK
        have hsz : a'.tmps.size = 85 := hf.size
        have e65 := hv.get 17 rfl (hdep 17 (by kernel_rfl))
        refine st_call #[.int .i64 0] rfl (enters_of Tryz.func35 (by kernel_rfl) rfl) (by simp [slot_eval, e65]) ?_
        refine (HI0.out _).mono ?_
        rintro e w2 ⟨rfl, rfl⟩
        exact ⟨_, rfl, hK _ _ (hf.put (by decide)) (hv.done (tab14_r _ _) (tab14_n _ _) rfl (by rw [hsz]; decide)) (hj.quiet (by decide) (by decide) (Below.refl _ _))⟩
      · intro listed a' w' hf hv hj hun hdep K hK
        have hsz : a'.tmps.size = 85 := hf.size
        have e50 : a'.tmps[50]'(by rw [hsz]; decide) = .string ⟨#[48, 46, 48]⟩ := by have h := hv.get 2 rfl (hdep 2 (by kernel_rfl)); unfold slotOf at h; simpa [hsz] using h
        have e53 : a'.tmps[53]'(by rw [hsz]; decide) = .string ⟨#[48, 46, 48]⟩ := by have h := hv.get 5 rfl (hdep 5 (by kernel_rfl)); unfold slotOf at h; simpa [hsz] using h
        have e56 : a'.tmps[56]'(by rw [hsz]; decide) = .string (digS T) := by have h := hv.get 8 rfl (hdep 8 (by kernel_rfl)); unfold slotOf at h; simpa [hsz] using h
        have e59 : a'.tmps[59]'(by rw [hsz]; decide) = .string ⟨#[48]⟩ := by have h := hv.get 11 rfl (hdep 11 (by kernel_rfl)); unfold slotOf at h; simpa [hsz] using h
        have e62 : a'.tmps[62]'(by rw [hsz]; decide) = .string ⟨#[48]⟩ := by have h := hv.get 14 rfl (hdep 14 (by kernel_rfl)); unfold slotOf at h; simpa [hsz] using h
        have e63 : a'.tmps[63]'(by rw [hsz]; decide) = .string ⟨#[110, 111]⟩ := by have h := hv.get 15 rfl (hdep 15 (by kernel_rfl)); unfold slotOf at h; simpa [hsz] using h
        have e66 : a'.tmps[66]'(by rw [hsz]; decide) = .string ⟨#[48]⟩ := by have h := hv.get 18 rfl (hdep 18 (by kernel_rfl)); unfold slotOf at h; simpa [hsz] using h
        refine st_gen rfl ?_
        unfold Oper.wp execOp
        dsimp only
        go_simp
        exact hK _ _ (hf.put (by decide)) (hv.other (tab14_19 _ _)) (hj.alloc (by rw [hsz]; decide))
      · intro listed a' w' hf hv hj hun hdep K hK
        have hsz : a'.tmps.size = 85 := hf.size
        obtain ⟨g, e67, _⟩ := hj.al (hdep 19 (by kernel_rfl))
        have e67 : a'.tmps[67]'(by rw [hsz]; decide) = .slice (some ⟨g, 0, none⟩) 7 7 := by unfold slotOf at e67; simpa [hsz] using e67
        refine st_gen rfl ?_
        unfold Oper.wp execOp
        dsimp only
        go_simp
        exact hK _ _ (hf.put (by decide)) (hv.other (tab14_20 _ _)) (hj.len (by rw [hsz]; decide))
      · intro listed a' w' hf hv hj hun hdep K hK
        have hsz : a'.tmps.size = 85 := hf.size
        refine st_gen rfl ?_
        unfold Oper.wp execOp
        dsimp only
        go_simp
        exact hK _ _ (hf.put (by decide)) (hv.other (tab14_21 _ _)) (hj.zero (by rw [hsz]; decide))
    · intro listed a' w' hf hv hj hall
      obtain ⟨g, e67, hr⟩ := hj.al (hall 19 (by decide))
      have e68 := hj.ln (hall 20 (by decide))
      have e69 := hj.z (hall 21 (by decide))
      refine hK1 _ _ (Met.intro (hJ1 _ _ ⟨slotOf a' 48, slotOf a' 49, slotOf a' 50, slotOf a' 51, slotOf a' 52, slotOf a' 53, slotOf a' 54, slotOf a' 55, slotOf a' 56, slotOf a' 57, slotOf a' 58, slotOf a' 59, slotOf a' 60, slotOf a' 61, slotOf a' 62, slotOf a' 63, slotOf a' 64, slotOf a' 65, slotOf a' 66, slotOf a' 67, slotOf a' 68, slotOf a' 69, ⟨g, e67, e68, e69, hr, hj.bw⟩, ?lit⟩))
      refine hf.lit.trans ?_
      kernel_rfl
  case rest =>
    obtain ⟨g, rfl, rfl, rfl, hr, hbx⟩ := hcut
    have s0 : wc.cell? ⟨g, 0, none⟩ = some (.string ⟨#[48, 46, 48]⟩) := cell_of_row _ _ _ _ _ _ hr
    have s1 : wc.cell? ⟨g, 1, none⟩ = some (.string ⟨#[48, 46, 48]⟩) := cell_of_row _ _ _ _ _ _ hr
    have s2 : wc.cell? ⟨g, 2, none⟩ = some (.string (digS T)) := cell_of_row _ _ _ _ _ _ hr
    have s3 : wc.cell? ⟨g, 3, none⟩ = some (.string ⟨#[48]⟩) := cell_of_row _ _ _ _ _ _ hr
    have s4 : wc.cell? ⟨g, 4, none⟩ = some (.string ⟨#[48]⟩) := cell_of_row _ _ _ _ _ _ hr
    have s5 : wc.cell? ⟨g, 5, none⟩ = some (.string ⟨#[110, 111]⟩) := cell_of_row _ _ _ _ _ _ hr
    have s6 : wc.cell? ⟨g, 6, none⟩ = some (.string ⟨#[48]⟩) := cell_of_row _ _ _ _ _ _ hr
    have HB4 := Go.Lib.hid (HB3.out.trans (hbx.mono HB3.out.size))
    clear hr hbx HR HF HI0 HIT HH HX3 HB3 c0 c1 c2 c3 c4 c5 c6 c7 c8 c9 c10 c11
    generalize wc = W4 at *
    go_wp2_with fail
    refine wp_loop_rounds 8 ?_
    rw [rounds_succ]
    go_wp2
    rw [rounds_succ]
    go_wp2
    rw [rounds_succ]
    go_wp2
    rw [rounds_succ]
    go_wp2
    rw [rounds_succ]
    go_wp2
    rw [rounds_succ]
    go_wp2
    rw [rounds_succ]
    go_wp2
    rw [rounds_succ]
    go_wp2
    go_ret
    exact ⟨rfl, HB4.out⟩
end Go.Proofs.YtdemhabgaimnmaaGreatDoor
/- Two lists of numbers that are the same; what a core has; the document's example. -/
namespace Go.Proofs.YtdemhabgaimnmaaGreatDoor
open Go.RowKit
set_option maxRecDepth 100000
set_option linter.unusedVariables false

end Go.Proofs.YtdemhabgaimnmaaGreatDoor
/- The document's example: it holds. -/
namespace Go.Proofs.YtdemhabgaimnmaaGreatDoor
open Go.RowKit
set_option maxRecDepth 100000
set_option linter.unusedVariables false

theorem Shr.below_old {L L' : Lab} {w W W' : World} {n : Nat} (h : Shr L W L' W') (hb : Below n w W) (hn : n ≤ w.heap.size) (old : ∀ b, b < n → L b = 0) : Below n w W' :=
  ⟨h.os.trans hb.os, h.tape.trans hb.tape, h.output.trans hb.output, Nat.le_trans hb.size h.size, fun b hb' => (h.block b (by have := hb.size; omega) (.inl (old b hb'))).trans (hb.block b hb')⟩

def c0 : Cf := ⟨1, 1, 1, 3, 1, 0, 0, 0, 1, 1, 1, 0, 0⟩
end Go.Proofs.YtdemhabgaimnmaaGreatDoor
