/- Two lists of numbers that are the same; what a core has; the document's example. -/
import Derived.Test.YtgemjjpmoejgdaaGreatHqg
import Derived.Laws.EntriesVeiled
namespace Go.Proofs.YtgemjjpmoejgdaaGreat
open Go.RowKit
set_option maxRecDepth 100000
set_option linter.unusedVariables false

theorem own_cell {w : World} {base : Nat} {e : TypeId} {v : Value} {n : Nat} {xs : List Value} (h : w.ownsRow base e 1 v n xs) (hn : 0 < n) :
    ∃ g cap, v = .slice (some ⟨g, 0, none⟩) n cap ∧ ∀ i, i < n → w.cell? ⟨g, i, none⟩ = some (xs.getD i (.bool false)) := by
  rcases h.2 with ⟨_, h0⟩ | ⟨g, cap, cur, rfl, _, hb, h1, h2, h3, h4⟩
  · omega
  · refine ⟨g, cap, rfl, fun i hi => ?_⟩
    rw [cell_of_row _ _ _ _ _ _ hb]
    have hlt : i < cur.size := by omega
    have h5 : xs[i]? = cur[i]? := by
      rw [← h4, List.getElem?_take]
      simp; omega
    have h6 : i < xs.length := by rw [h.1]; omega
    rw [List.getD_eq_getElem?_getD, h5]
    simp [hlt]

set_option maxHeartbeats 1000000 in
theorem same_yes {base base' : Nat} (w : World) (va vb : Value) (xs : List Int) (ha : w.ownsRow base 3 1 va xs.length (xs.map (Value.int .i64))) (hb : w.ownsRow base' 3 1 vb xs.length (xs.map (Value.int .i64))) (hl : xs.length ≤ 1048576) :
    Calls Tryz.prog 60 #[va, vb] w (Qt (.bool true) w) := by
  by_cases h0 : xs.length = 0
  · obtain ⟨a1, c1, rfl⟩ := own_form ha
    obtain ⟨a2, c2, rfl⟩ := own_form hb
    rw [h0]
    clear ha hb
    go_enter Tryz.func60, Tryz.ntmps60
    go_wp2
    go_loop [5] (fun i => i = .int .i64 0) (fun _ => 0)
    case atStart => rfl
    case round =>
      subst hrel
      go_wp2
      go_ret
      exact ⟨rfl, 0, rfl⟩
  · obtain ⟨g1, c1, rfl, d1⟩ := own_cell ha (by omega)
    obtain ⟨g2, c2, rfl, d2⟩ := own_cell hb (by omega)
    clear ha hb
    have HD1 : Hid (∀ i, i < xs.length → w.cell? ⟨g1, i, none⟩ = some (.int .i64 (xs.getD i 0))) := fun i hi => by
      have := d1 i hi
      rw [List.getD_eq_getElem?_getD] at this ⊢
      simpa [hi] using this
    have HD2 : Hid (∀ i, i < xs.length → w.cell? ⟨g2, i, none⟩ = some (.int .i64 (xs.getD i 0))) := fun i hi => by
      have := d2 i hi
      rw [List.getD_eq_getElem?_getD] at this ⊢
      simpa [hi] using this
    clear d1 d2
    generalize hn : xs.length = n at *
    clear hn
    go_enter Tryz.func60, Tryz.ntmps60
    go_wp2
    go_loopw [5] (fun i wr => ∃ k q : Nat, k ≤ n ∧ i = .int .i64 k ∧ wr = w.drewN q) (fun i _ => n - (intOf i).toNat)
    case atStart => exact ⟨0, 0, Nat.zero_le _, rfl, rfl⟩
    case round =>
      obtain ⟨k, q, hk, rfl, rfl⟩ := hrel
      by_cases hlt : k < n
      · have e1 := HD1.out k hlt
        have e2 := HD2.out k hlt
        have b1 : (0 : Int) ≤ (k : Int) := by omega
        have b2 : (k : Int) < (n : Int) := by omega
        go_wp2
        go_quiet (fail)
        go_wp2
        exact ⟨⟨k + 1, q + nq, by omega, by go_num, rfl⟩, by simp [intOf]; omega⟩
      · have s4 : ((k : Int) < n) = False := by simp; omega
        go_wp2
        go_ret
        exact ⟨rfl, q, rfl⟩
set_option maxHeartbeats 4000000 in
theorem law15_whole {E : G} {L : Lab} {S : St} {w : World} (hg : Good E L S w) :
    Calls Tryz.prog 98 #[.pointer (some ⟨E.k, 0, none⟩)] w fun e w' => e = .returned (.bool true) ∧ Below w.heap.size w w' := by
  have HG := Go.Lib.hid hg
  have h1 : Hid (∀ W, Below w.heap.size w W → Calls Tryz.prog 57 #[.pointer (some ⟨E.k, 0, none⟩)] W fun e w' => e = .returned (.agg #[.pointer (some ⟨E.a, 0, none⟩), .int .i64 1, (.func (.func 155) #[.pointer (some ⟨E.p, 0, none⟩)] #[])]) ∧ Below W.heap.size W w') := fun W h => core_Nodes (HG.out.below h)
  have h2 : Hid (∀ W, Below w.heap.size w W → Calls Tryz.prog 24 #[.pointer (some ⟨E.k, 0, none⟩)] W fun e w' => e = .returned (.agg #[.pointer (some ⟨E.a, 0, none⟩), .int .i64 2, (.func (.func 100) #[.pointer (some ⟨E.p, 0, none⟩)] #[])]) ∧ Below W.heap.size W w') := fun W h => core_Tickets (HG.out.below h)
  have h3 : Hid (∀ W, Below w.heap.size w W → Calls Tryz.prog 30 #[.pointer (some ⟨E.k, 0, none⟩), .int .i64 0] W fun e w' => e = .returned (.agg #[.pointer (some ⟨E.a, 0, none⟩), .int .i64 (E.cf.inbox 0), (.func (.func 100) #[.pointer (some ⟨E.p, 0, none⟩)] #[]), .func (.func 113) #[.pointer (some ⟨E.k, 0, none⟩)] #[], .pointer (some ⟨E.a, 0, none⟩), .int .i64 2, (.func (.func 100) #[.pointer (some ⟨E.p, 0, none⟩)] #[])]) ∧ Below W.heap.size W w') := fun W h => core_box (HG.out.below h) 0
  have h4 : Hid (∀ W, Below w.heap.size w W → Calls Tryz.prog 33 #[.pointer (some ⟨E.k, 0, none⟩), .int .i64 0] W fun e w' => e = .returned (.agg #[.pointer (some ⟨E.a, 0, none⟩), .int .i64 E.cf.levels, .int .i64 E.cf.bits, .int .i64 (E.cf.over 0), .func (.func 121) #[] #[.pointer (some ⟨W.heap.size, 0, none⟩), .pointer (some ⟨W.heap.size + 1, 0, none⟩)], .func (.func 123) #[] #[.pointer (some ⟨W.heap.size, 0, none⟩), .pointer (some ⟨W.heap.size + 1, 0, none⟩)], (.func (.func 100) #[.pointer (some ⟨E.p, 0, none⟩)] #[])]) ∧ Below W.heap.size W w') := fun W h => (core_wheel (HG.out.below h) 0).mono fun _ _ ⟨a, b, _, _⟩ => ⟨a, b⟩
  have hf1 : ∀ w : World, (Instr.field 60 (.agg #[.pointer (some ⟨E.a, 0, none⟩), .int .i64 1, (.func (.func 155) #[.pointer (some ⟨E.p, 0, none⟩)] #[])]) 0).run Tryz.prog w = .ok (.pointer (some ⟨E.a, 0, none⟩)) w := fun _ => by kernel_rfl
  have hf2 : ∀ w : World, (Instr.field 60 (.agg #[.pointer (some ⟨E.a, 0, none⟩), .int .i64 2, (.func (.func 100) #[.pointer (some ⟨E.p, 0, none⟩)] #[])]) 0).run Tryz.prog w = .ok (.pointer (some ⟨E.a, 0, none⟩)) w := fun _ => by kernel_rfl
  have hf3 : ∀ w : World, (Instr.field 68 (.agg #[.pointer (some ⟨E.a, 0, none⟩), .int .i64 (E.cf.inbox 0), (.func (.func 100) #[.pointer (some ⟨E.p, 0, none⟩)] #[]), .func (.func 113) #[.pointer (some ⟨E.k, 0, none⟩)] #[], .pointer (some ⟨E.a, 0, none⟩), .int .i64 2, (.func (.func 100) #[.pointer (some ⟨E.p, 0, none⟩)] #[])]) 0).run Tryz.prog w = .ok (.pointer (some ⟨E.a, 0, none⟩)) w := fun _ => by kernel_rfl
  have hf4 : ∀ (b : Nat) (w : World), (Instr.field 73 (.agg #[.pointer (some ⟨E.a, 0, none⟩), .int .i64 E.cf.levels, .int .i64 E.cf.bits, .int .i64 (E.cf.over 0), .func (.func 121) #[] #[.pointer (some ⟨b, 0, none⟩), .pointer (some ⟨b + 1, 0, none⟩)], .func (.func 123) #[] #[.pointer (some ⟨b, 0, none⟩), .pointer (some ⟨b + 1, 0, none⟩)], (.func (.func 100) #[.pointer (some ⟨E.p, 0, none⟩)] #[])]) 0).run Tryz.prog w = .ok (.pointer (some ⟨E.a, 0, none⟩)) w := fun _ _ => by kernel_rfl
  clear hg
  go_enter Tryz.func98, Tryz.ntmps98
  go_wp2_with (first
    | (go_at_call 44; refine (core_cells HG.out).mono ?_; rintro e w' ⟨rfl, rfl⟩)
    | (go_at_call 47; refine (core_plan HG.out).mono ?_; rintro e w' ⟨rfl, rfl⟩)
    | (go_at_call 189; refine (core_log HG.out).mono ?_; rintro e w' ⟨rfl, rfl⟩)
    | fail)
  refine (h1.out _ (Below.refl _ _)).mono ?_
  rintro e w1 ⟨rfl, hb1⟩
  go_wp2_with fail
  refine (h2.out _ hb1).mono ?_
  rintro e w2 ⟨rfl, hb2⟩
  have hb2 := hb1.trans (hb2.mono hb1.size)
  go_wp2_with fail
  refine (h3.out _ hb2).mono ?_
  rintro e w3 ⟨rfl, hb3⟩
  have hb3 := hb2.trans (hb3.mono hb2.size)
  go_wp2_with fail
  refine (h4.out _ hb3).mono ?_
  rintro e w4 ⟨rfl, hb4⟩
  have hb4 := hb3.trans (hb4.mono hb3.size)
  go_wp2
  go_ret
  exact ⟨rfl, hb4⟩
end Go.Proofs.YtgemjjpmoejgdaaGreat
/- The document's example: it holds. -/
namespace Go.Proofs.YtgemjjpmoejgdaaGreat
open Go.RowKit
set_option maxRecDepth 100000
set_option linter.unusedVariables false

theorem Shr.below_old {L L' : Lab} {w W W' : World} {n : Nat} (h : Shr L W L' W') (hb : Below n w W) (hn : n ≤ w.heap.size) (old : ∀ b, b < n → L b = 0) : Below n w W' :=
  ⟨h.os.trans hb.os, h.tape.trans hb.tape, h.output.trans hb.output, Nat.le_trans hb.size h.size, fun b hb' => (h.block b (by have := hb.size; omega) (.inl (old b hb'))).trans (hb.block b hb')⟩

def c0 : Cf := ⟨1, 1, 1, 3, 1, 0, 0, 0, 1, 1, 1, 0, 0⟩
theorem c0_ok : c0.Ok := by constructor <;> decide
theorem c0_chain : ChainOf (S0 c0) (fun i => c0.nodesAt + 4 * i + 3) ((part ((S0 c0).m 1) 0 32 : Int) - 1) [0, 1, 2] := by
  have m1 : freshM c0 1 = 1 := by decide
  have m12 : freshM c0 12 = 2 := by decide
  have m16 : freshM c0 16 = 3 := by decide
  have m20 : freshM c0 20 = 0 := by decide
  have e0 : c0.nodesAt = 9 := by decide
  have e1 : c0.size = 24 := by decide
  simp [ChainOf, S0, e0, e1, m1, m12, m16, m20, part]

set_option maxHeartbeats 4000000 in
theorem law15_speaks (w : World) : Calls Tryz.prog 23 #[] w fun e w' => e = .returned (.bool true) ∧ Below w.heap.size w w' := by
  have HN : Hid (∀ w, Calls Tryz.prog 75 #[.agg #[.int .i64 1, .int .i64 1, .int .i64 1, .int .i64 3, .int .i64 1, .int .i64 0, .int .i64 0, .int .i64 0, .int .i64 1, .int .i64 1, .int .i64 1, .int .i64 0, .int .i64 0]] w fun e w' => ∃ E L, e = .returned (.tuple #[.pointer (some ⟨E.k, 0, none⟩), .int .i64 0]) ∧ Born c0 w E L w') := fun w => core_new c0 c0_ok w
  go_enter Tryz.func23, Tryz.ntmps23
  go_wp2_with fail
  refine (HN.out _).mono ?_
  rintro e w1 ⟨E, L, rfl, hborn⟩
  obtain ⟨hcf, hg, hbl, hold, hnr, hek⟩ := hborn
  have HG := Go.Lib.hid hg
  have HCF := Go.Lib.hid hcf
  have HBL := Go.Lib.hid hbl
  have HOLD := Go.Lib.hid hold
  clear hg hcf hbl hold hnr hek HN
  go_wp2_with fail
  refine (law15_whole HG.out).mono ?_
  rintro e w2 ⟨rfl, hb2⟩
  have HB2 := Go.Lib.hid hb2
  clear hb2
  go_wp2_with fail
  have HNO : Calls Tryz.prog 57 #[.pointer (some ⟨E.k, 0, none⟩)] w2 fun e w' => e = .returned (.agg #[.pointer (some ⟨E.a, 0, none⟩), .int .i64 1, .func (.func 155) #[.pointer (some ⟨E.p, 0, none⟩)] #[]]) ∧ Below w2.heap.size w2 w' := core_Nodes (HG.out.below HB2.out)
  refine HNO.mono ?_
  rintro e w3 ⟨rfl, hb3⟩
  have HB3 := Go.Lib.hid (HB2.out.trans (hb3.mono HB2.out.size))
  clear hb3 HNO
  go_wp2_with fail
  have HLI : Calls Tryz.prog 58 #[.agg #[.pointer (some ⟨E.a, 0, none⟩), .int .i64 1, .func (.func 155) #[.pointer (some ⟨E.p, 0, none⟩)] #[]]] w3 fun e w' => ∃ v, e = .returned v ∧ w'.ownsRow w3.heap.size 3 1 v 3 [.int .i64 0, .int .i64 1, .int .i64 2] ∧ Below w3.heap.size w3 w' :=
    stack_list (HG.out.below HB3.out) 155 (fun _ _ => by kernel_rfl) 1 (by decide) (fun i => c0.nodesAt + 4 * i + 3) [0, 1, 2]
      (fun x hx w hp => by
        have h := plan_NodeLink (HG.out.ok) E.p x w hp
        rw [nodeLink_at E.cf x (by rw [HCF.out]; simp at hx; show x < 3; omega), HCF.out] at h
        exact h) c0_chain (by decide)
  refine HLI.mono ?_
  rintro e w4 ⟨v, rfl, hown, hb4⟩
  have HB4 := Go.Lib.hid (HB3.out.trans (hb4.mono HB3.out.size))
  have HOWN := Go.Lib.hid hown
  clear hb4 hown HLI
  go_wp2_with fail
  have hal : Below w4.heap.size w4 (w4.alloc (.cells #[.int .i64 0, .int .i64 1, .int .i64 2] 3)) := (Below.refl _ _).alloc (Nat.le_refl _) _
  have ho1 := own_kept HOWN.out (fun g hg => hal.block g (own_lt HOWN.out hg))
  have ho2 : World.ownsRow (w4.alloc (.cells #[.int .i64 0, .int .i64 1, .int .i64 2] 3)) 0 3 1 (.slice (some ⟨w4.heap.size, 0, none⟩) 3 3) 3 [.int .i64 0, .int .i64 1, .int .i64 2] :=
    ⟨rfl, .inr ⟨w4.heap.size, 3, _, rfl, Nat.zero_le _, heap_alloc_new _ _, by decide, by decide, rfl, rfl⟩⟩
  have HB5 := Go.Lib.hid (HB4.out.trans (hal.mono HB4.out.size))
  have hs := same_yes _ v (.slice (some ⟨w4.heap.size, 0, none⟩) 3 3) [0, 1, 2] ho1 ho2 (by decide)
  clear ho1 ho2 hal
  generalize (w4.alloc (.cells #[.int .i64 0, .int .i64 1, .int .i64 2] 3)) = w5 at *
  refine hs.mono ?_
  intro e w6 hq
  obtain ⟨rfl, hb6⟩ := hq.below
  have HB6 := Go.Lib.hid (HB5.out.trans (hb6.mono HB5.out.size))
  clear hb6 hq hs
  go_wp2_with fail
  refine (core_tick (HG.out.below HB6.out) (by decide) (by show freshM c0 0 < _; decide) (by decide) (by decide)).mono ?_
  rintro e w7 ⟨L', rfl, hg7, hs7⟩
  have HG7 := Go.Lib.hid hg7
  have HB7 := Go.Lib.hid (hs7.below_old (HBL.out.trans (HB6.out.mono HBL.out.size)) (Nat.le_refl _) HOLD.out)
  clear hg7 hs7
  go_wp2_with fail
  have HCK : Calls Tryz.prog 79 #[.pointer (some ⟨E.k, 0, none⟩)] w7 fun e w' => e = .returned (.int .i64 1) ∧ Below w7.heap.size w7 w' := core_clock HG7.out (by decide) (by decide)
  refine HCK.mono ?_
  rintro e w8 ⟨rfl, hb8⟩
  have HB8 := Go.Lib.hid (HB7.out.trans (hb8.mono HB7.out.size))
  clear hb8 HCK
  go_wp2
  go_ret
  exact ⟨rfl, HB8.out⟩
end Go.Proofs.YtgemjjpmoejgdaaGreat
/- The document's configurations: which may be. -/
namespace Go.Proofs.YtgemjjpmoejgdaaGreat
open Go.RowKit
set_option maxRecDepth 100000
set_option linter.unusedVariables false

def leastN : List Nat := [1, 1, 1, 1, 1, 0, 0, 0, 1, 1, 1, 0, 0]
def mostN : List Nat := [64, 8, 6, 4096, 8192, 1073741823, 4294967295, 256, 1073741823, 1073741823, 1073741823, 1073741823, 31]
set_option maxHeartbeats 1000000 in
theorem ref_least (i : Nat) (hi : i < 13) (w : World) : Calls Tryz.prog 231 #[.int .i64 i] w fun e w' => e = .returned (.int .i64 (leastN.getD i 0 : Nat)) ∧ w' = w := by
  match i, hi with
  | 0, _ | 1, _ | 2, _ | 3, _ | 4, _ | 5, _ | 6, _ | 7, _ | 8, _ | 9, _ | 10, _ | 11, _ | 12, _ =>
    go_enter Tryz.func231, Tryz.ntmps231
    go_wp2
    go_ret
    exact ⟨rfl, rfl⟩
set_option maxHeartbeats 1000000 in
theorem ref_most (i : Nat) (hi : i < 13) (w : World) : Calls Tryz.prog 232 #[.int .i64 i] w fun e w' => e = .returned (.int .i64 (mostN.getD i 0 : Nat)) ∧ w' = w := by
  match i, hi with
  | 0, _ | 1, _ | 2, _ | 3, _ | 4, _ | 5, _ | 6, _ | 7, _ | 8, _ | 9, _ | 10, _ | 11, _ | 12, _ =>
    go_enter Tryz.func232, Tryz.ntmps232
    go_wp2
    go_ret
    exact ⟨rfl, rfl⟩
theorem below_drewN' {n : Nat} {w W : World} (hb : Below n w W) (q : Nat) : Below n w (W.drewN q) := ⟨hb.os, hb.tape, hb.output, hb.size, hb.block⟩
def okI (x : Nat → Int) : Prop := ∀ i, i < 13 → (leastN.getD i 0 : Int) ≤ x i ∧ x i ≤ (mostN.getD i 0 : Int)
instance (x : Nat → Int) : Decidable (okI x) := by unfold okI; infer_instance
set_option maxHeartbeats 2000000 in
theorem ref_Check (x : Nat → Int) (w : World) : Calls Tryz.prog 176 #[.agg #[.int .i64 (x 0), .int .i64 (x 1), .int .i64 (x 2), .int .i64 (x 3), .int .i64 (x 4), .int .i64 (x 5), .int .i64 (x 6), .int .i64 (x 7), .int .i64 (x 8), .int .i64 (x 9), .int .i64 (x 10), .int .i64 (x 11), .int .i64 (x 12)]] w fun e w' => ∃ a, e = .returned (.tuple #[.int .i64 a, .int .i64 (if okI x then 0 else 7)]) ∧ Below w.heap.size w w' := by
  have hc : ∀ k, k < 13 → (w.alloc (.cells #[.int .i64 (x 0), .int .i64 (x 1), .int .i64 (x 2), .int .i64 (x 3), .int .i64 (x 4), .int .i64 (x 5), .int .i64 (x 6), .int .i64 (x 7), .int .i64 (x 8), .int .i64 (x 9), .int .i64 (x 10), .int .i64 (x 11), .int .i64 (x 12)] 23)).cell? ⟨w.heap.size, k, none⟩ = some (.int .i64 (x k)) := by
    intro k hk
    rw [World.cell?_alloc_new]
    match k, hk with
    | 0, _ | 1, _ | 2, _ | 3, _ | 4, _ | 5, _ | 6, _ | 7, _ | 8, _ | 9, _ | 10, _ | 11, _ | 12, _ => rfl
  have hb : Below w.heap.size w (w.alloc (.cells #[.int .i64 (x 0), .int .i64 (x 1), .int .i64 (x 2), .int .i64 (x 3), .int .i64 (x 4), .int .i64 (x 5), .int .i64 (x 6), .int .i64 (x 7), .int .i64 (x 8), .int .i64 (x 9), .int .i64 (x 10), .int .i64 (x 11), .int .i64 (x 12)] 23)) := (Below.refl _ _).alloc (Nat.le_refl _) _
  have HC := Go.Lib.hid hc
  clear hc
  go_enter Tryz.func176, Tryz.ntmps176
  go_wp2
  generalize (w.alloc (.cells #[.int .i64 (x 0), .int .i64 (x 1), .int .i64 (x 2), .int .i64 (x 3), .int .i64 (x 4), .int .i64 (x 5), .int .i64 (x 6), .int .i64 (x 7), .int .i64 (x 8), .int .i64 (x 9), .int .i64 (x 10), .int .i64 (x 11), .int .i64 (x 12)] 23)) = W at *
  generalize hbx : w.heap.size = bx at *
  go_loopw [4] (fun i wr => ∃ k : Nat, k ≤ 13 ∧ i = .int .i64 k ∧ Below W.heap.size W wr ∧ ∀ j, j < k → (leastN.getD j 0 : Int) ≤ x j ∧ x j ≤ (mostN.getD j 0 : Int)) (fun i _ => 13 - (intOf i).toNat)
  case atStart => exact ⟨0, Nat.zero_le _, rfl, Below.refl _ _, fun j hj => absurd hj (by omega)⟩
  case round =>
    obtain ⟨k, hk, rfl, hbw, hall⟩ := hrel
    have hbT := hb.trans (hbw.mono (hbx ▸ hb.size))
    have HALL := Go.Lib.hid hall
    clear hall
    by_cases hlt : k < 13
    · have e1 := below_cell hbw (HC.out k hlt)
      have b1 : (0 : Int) ≤ (k : Int) := by omega
      have b2 : (k : Int) < 13 := by omega
      have HL := Go.Lib.hid (ref_least k hlt)
      have HM := Go.Lib.hid (ref_most k hlt)
      have HOK : Hid (okI x → (leastN.getD k 0 : Int) ≤ x k ∧ x k ≤ (mostN.getD k 0 : Int)) := fun h => h k hlt
      have HNX : Hid ((leastN.getD k 0 : Int) ≤ x k ∧ x k ≤ (mostN.getD k 0 : Int) → ∀ j, j < k + 1 → (leastN.getD j 0 : Int) ≤ x j ∧ x j ≤ (mostN.getD j 0 : Int)) := fun h j hj => by
        by_cases e : j = k
        · subst e; exact h
        · exact HALL.out j (by omega)
      generalize leastN.getD k 0 = lo at *
      generalize mostN.getD k 0 = hi at *
      generalize x k = v at *
      by_cases h1 : v < (lo : Int)
      · have hno : ¬ okI x := fun h => by have := HOK.out h; omega
        go_wp2
        go_quiet (first
          | (go_at_call 231; refine Calls.quiet_of_same (HL.out _))
          | (go_at_call 232; refine Calls.quiet_of_same (HM.out _)))
        go_wp2
        go_ret2
        exact ⟨⟨k, by first | rfl | (rw [if_neg hno]; rfl)⟩, below_drewN' hbT nq⟩
      · by_cases h2 : v > (hi : Int)
        · have hno : ¬ okI x := fun h => by have := HOK.out h; omega
          go_wp2
          go_quiet (first
            | (go_at_call 231; refine Calls.quiet_of_same (HL.out _))
            | (go_at_call 232; refine Calls.quiet_of_same (HM.out _)))
          go_wp2
          go_ret2
          exact ⟨⟨k, by first | rfl | (rw [if_neg hno]; rfl)⟩, below_drewN' hbT nq⟩
        · have hnx := Go.Lib.hid (HNX.out (by omega))
          go_wp2
          go_quiet (first
            | (go_at_call 231; refine Calls.quiet_of_same (HL.out _))
            | (go_at_call 232; refine Calls.quiet_of_same (HM.out _)))
          go_wp2
          exact ⟨⟨k + 1, by omega, by go_num, below_drewN' hbw nq, hnx.out⟩, by simp [intOf]; omega⟩
    · have s4 : ((k : Int) < 13) = False := by simp; omega
      have hyes : okI x := fun i hi => HALL.out i (by omega)
      go_wp2
      go_ret2
      exact ⟨⟨0, by first | rfl | (rw [if_pos hyes]; rfl)⟩, hbT⟩
end Go.Proofs.YtgemjjpmoejgdaaGreat
/- The document's configurations: the small ones; a core of one. -/
namespace Go.Proofs.YtgemjjpmoejgdaaGreat
open Go.RowKit
set_option maxRecDepth 100000
set_option linter.unusedVariables false

set_option maxHeartbeats 1000000 in
theorem ref_Right (x : Nat → Int) (w : World) : Calls Tryz.prog 77 #[.agg #[.int .i64 (x 0), .int .i64 (x 1), .int .i64 (x 2), .int .i64 (x 3), .int .i64 (x 4), .int .i64 (x 5), .int .i64 (x 6), .int .i64 (x 7), .int .i64 (x 8), .int .i64 (x 9), .int .i64 (x 10), .int .i64 (x 11), .int .i64 (x 12)]] w fun e w' => e = .returned (.bool (decide (okI x))) ∧ Below w.heap.size w w' := by
  have hb : Below w.heap.size w (w.alloc (.cells #[.int .i64 (x 0), .int .i64 (x 1), .int .i64 (x 2), .int .i64 (x 3), .int .i64 (x 4), .int .i64 (x 5), .int .i64 (x 6), .int .i64 (x 7), .int .i64 (x 8), .int .i64 (x 9), .int .i64 (x 10), .int .i64 (x 11), .int .i64 (x 12)] 23)) := (Below.refl _ _).alloc (Nat.le_refl _) _
  have HC := Go.Lib.hid (ref_Check x)
  by_cases h : okI x
  · simp only [h, if_true] at HC
    rw [decide_eq_true h]
    clear h
    go_enter Tryz.func77, Tryz.ntmps77
    go_wp2_with fail
    refine (HC.out _).mono ?_
    rintro e w' ⟨a, rfl, hb1⟩
    have hb2 := hb.trans (hb1.mono hb.size)
    clear hb1 hb
    go_wp2
    go_ret
    exact ⟨rfl, hb2⟩
  · simp only [h, if_false] at HC
    rw [decide_eq_false h]
    clear h
    go_enter Tryz.func77, Tryz.ntmps77
    go_wp2_with fail
    refine (HC.out _).mono ?_
    rintro e w' ⟨a, rfl, hb1⟩
    have hb2 := hb.trans (hb1.mono hb.size)
    clear hb1 hb
    go_wp2
    go_ret
    exact ⟨rfl, hb2⟩
def smallI (x : Nat → Int) : Prop := okI x ∧ x 0 ≤ 6 ∧ x 1 ≤ 6 ∧ x 2 ≤ 4 ∧ x 3 ≤ 12 ∧ x 4 ≤ 30 ∧ x 7 ≤ 8
instance (x : Nat → Int) : Decidable (smallI x) := by unfold smallI; infer_instance
set_option maxHeartbeats 2000000 in
theorem law15_Small (x : Nat → Int) (w : World) : Calls Tryz.prog 12 #[.agg #[.int .i64 (x 0), .int .i64 (x 1), .int .i64 (x 2), .int .i64 (x 3), .int .i64 (x 4), .int .i64 (x 5), .int .i64 (x 6), .int .i64 (x 7), .int .i64 (x 8), .int .i64 (x 9), .int .i64 (x 10), .int .i64 (x 11), .int .i64 (x 12)]] w fun e w' => e = .returned (.bool (decide (smallI x))) ∧ Below w.heap.size w w' := by
  have hb : Below w.heap.size w (w.alloc (.cells #[.int .i64 (x 0), .int .i64 (x 1), .int .i64 (x 2), .int .i64 (x 3), .int .i64 (x 4), .int .i64 (x 5), .int .i64 (x 6), .int .i64 (x 7), .int .i64 (x 8), .int .i64 (x 9), .int .i64 (x 10), .int .i64 (x 11), .int .i64 (x 12)] 23)) := (Below.refl _ _).alloc (Nat.le_refl _) _
  have e0 : (w.alloc (.cells #[.int .i64 (x 0), .int .i64 (x 1), .int .i64 (x 2), .int .i64 (x 3), .int .i64 (x 4), .int .i64 (x 5), .int .i64 (x 6), .int .i64 (x 7), .int .i64 (x 8), .int .i64 (x 9), .int .i64 (x 10), .int .i64 (x 11), .int .i64 (x 12)] 23)).cell? ⟨w.heap.size, 0, none⟩ = some (.int .i64 (x 0)) := by go_simp
  have e1 : (w.alloc (.cells #[.int .i64 (x 0), .int .i64 (x 1), .int .i64 (x 2), .int .i64 (x 3), .int .i64 (x 4), .int .i64 (x 5), .int .i64 (x 6), .int .i64 (x 7), .int .i64 (x 8), .int .i64 (x 9), .int .i64 (x 10), .int .i64 (x 11), .int .i64 (x 12)] 23)).cell? ⟨w.heap.size, 1, none⟩ = some (.int .i64 (x 1)) := by go_simp
  have e2 : (w.alloc (.cells #[.int .i64 (x 0), .int .i64 (x 1), .int .i64 (x 2), .int .i64 (x 3), .int .i64 (x 4), .int .i64 (x 5), .int .i64 (x 6), .int .i64 (x 7), .int .i64 (x 8), .int .i64 (x 9), .int .i64 (x 10), .int .i64 (x 11), .int .i64 (x 12)] 23)).cell? ⟨w.heap.size, 2, none⟩ = some (.int .i64 (x 2)) := by go_simp
  have e3 : (w.alloc (.cells #[.int .i64 (x 0), .int .i64 (x 1), .int .i64 (x 2), .int .i64 (x 3), .int .i64 (x 4), .int .i64 (x 5), .int .i64 (x 6), .int .i64 (x 7), .int .i64 (x 8), .int .i64 (x 9), .int .i64 (x 10), .int .i64 (x 11), .int .i64 (x 12)] 23)).cell? ⟨w.heap.size, 3, none⟩ = some (.int .i64 (x 3)) := by go_simp
  have e4 : (w.alloc (.cells #[.int .i64 (x 0), .int .i64 (x 1), .int .i64 (x 2), .int .i64 (x 3), .int .i64 (x 4), .int .i64 (x 5), .int .i64 (x 6), .int .i64 (x 7), .int .i64 (x 8), .int .i64 (x 9), .int .i64 (x 10), .int .i64 (x 11), .int .i64 (x 12)] 23)).cell? ⟨w.heap.size, 4, none⟩ = some (.int .i64 (x 4)) := by go_simp
  have e5 : (w.alloc (.cells #[.int .i64 (x 0), .int .i64 (x 1), .int .i64 (x 2), .int .i64 (x 3), .int .i64 (x 4), .int .i64 (x 5), .int .i64 (x 6), .int .i64 (x 7), .int .i64 (x 8), .int .i64 (x 9), .int .i64 (x 10), .int .i64 (x 11), .int .i64 (x 12)] 23)).cell? ⟨w.heap.size, 5, none⟩ = some (.int .i64 (x 5)) := by go_simp
  have e6 : (w.alloc (.cells #[.int .i64 (x 0), .int .i64 (x 1), .int .i64 (x 2), .int .i64 (x 3), .int .i64 (x 4), .int .i64 (x 5), .int .i64 (x 6), .int .i64 (x 7), .int .i64 (x 8), .int .i64 (x 9), .int .i64 (x 10), .int .i64 (x 11), .int .i64 (x 12)] 23)).cell? ⟨w.heap.size, 6, none⟩ = some (.int .i64 (x 6)) := by go_simp
  have e7 : (w.alloc (.cells #[.int .i64 (x 0), .int .i64 (x 1), .int .i64 (x 2), .int .i64 (x 3), .int .i64 (x 4), .int .i64 (x 5), .int .i64 (x 6), .int .i64 (x 7), .int .i64 (x 8), .int .i64 (x 9), .int .i64 (x 10), .int .i64 (x 11), .int .i64 (x 12)] 23)).cell? ⟨w.heap.size, 7, none⟩ = some (.int .i64 (x 7)) := by go_simp
  have e8 : (w.alloc (.cells #[.int .i64 (x 0), .int .i64 (x 1), .int .i64 (x 2), .int .i64 (x 3), .int .i64 (x 4), .int .i64 (x 5), .int .i64 (x 6), .int .i64 (x 7), .int .i64 (x 8), .int .i64 (x 9), .int .i64 (x 10), .int .i64 (x 11), .int .i64 (x 12)] 23)).cell? ⟨w.heap.size, 8, none⟩ = some (.int .i64 (x 8)) := by go_simp
  have e9 : (w.alloc (.cells #[.int .i64 (x 0), .int .i64 (x 1), .int .i64 (x 2), .int .i64 (x 3), .int .i64 (x 4), .int .i64 (x 5), .int .i64 (x 6), .int .i64 (x 7), .int .i64 (x 8), .int .i64 (x 9), .int .i64 (x 10), .int .i64 (x 11), .int .i64 (x 12)] 23)).cell? ⟨w.heap.size, 9, none⟩ = some (.int .i64 (x 9)) := by go_simp
  have e10 : (w.alloc (.cells #[.int .i64 (x 0), .int .i64 (x 1), .int .i64 (x 2), .int .i64 (x 3), .int .i64 (x 4), .int .i64 (x 5), .int .i64 (x 6), .int .i64 (x 7), .int .i64 (x 8), .int .i64 (x 9), .int .i64 (x 10), .int .i64 (x 11), .int .i64 (x 12)] 23)).cell? ⟨w.heap.size, 10, none⟩ = some (.int .i64 (x 10)) := by go_simp
  have e11 : (w.alloc (.cells #[.int .i64 (x 0), .int .i64 (x 1), .int .i64 (x 2), .int .i64 (x 3), .int .i64 (x 4), .int .i64 (x 5), .int .i64 (x 6), .int .i64 (x 7), .int .i64 (x 8), .int .i64 (x 9), .int .i64 (x 10), .int .i64 (x 11), .int .i64 (x 12)] 23)).cell? ⟨w.heap.size, 11, none⟩ = some (.int .i64 (x 11)) := by go_simp
  have e12 : (w.alloc (.cells #[.int .i64 (x 0), .int .i64 (x 1), .int .i64 (x 2), .int .i64 (x 3), .int .i64 (x 4), .int .i64 (x 5), .int .i64 (x 6), .int .i64 (x 7), .int .i64 (x 8), .int .i64 (x 9), .int .i64 (x 10), .int .i64 (x 11), .int .i64 (x 12)] 23)).cell? ⟨w.heap.size, 12, none⟩ = some (.int .i64 (x 12)) := by go_simp
  have HR := Go.Lib.hid (ref_Right x)
  have hsm : decide (smallI x) = ((((((decide (okI x) && decide (x 0 ≤ 6)) && decide (x 1 ≤ 6)) && decide (x 2 ≤ 4)) && decide (x 3 ≤ 12)) && decide (x 4 ≤ 30)) && decide (x 7 ≤ 8)) := by
    rw [Bool.eq_iff_iff]; simp [smallI, and_assoc]; exact decide_eq_true_iff
  rw [hsm]
  clear hsm
  generalize hok : decide (okI x) = ok at *
  replace hok := Go.Lib.hid hok
  go_enter Tryz.func12, Tryz.ntmps12
  go_wp2_with fail
  refine (HR.out _).mono ?_
  rintro e w' ⟨rfl, hb1⟩
  have e0 := below_cell hb1 e0
  have e1 := below_cell hb1 e1
  have e2 := below_cell hb1 e2
  have e3 := below_cell hb1 e3
  have e4 := below_cell hb1 e4
  have e5 := below_cell hb1 e5
  have e6 := below_cell hb1 e6
  have e7 := below_cell hb1 e7
  have e8 := below_cell hb1 e8
  have e9 := below_cell hb1 e9
  have e10 := below_cell hb1 e10
  have e11 := below_cell hb1 e11
  have e12 := below_cell hb1 e12
  have hb2 := hb.trans (hb1.mono hb.size)
  clear hb1 hb HR
  cases ok with
  | false =>
    go_wp2
    go_ret
    exact ⟨by simp, hb2⟩
  | true =>
    by_cases d0 : x 0 ≤ 6
    · skip
      by_cases d1 : x 1 ≤ 6
      · skip
        by_cases d2 : x 2 ≤ 4
        · skip
          by_cases d3 : x 3 ≤ 12
          · skip
            by_cases d4 : x 4 ≤ 30
            · skip
              by_cases d5 : x 7 ≤ 8
              · skip
                go_wp2
                go_ret
                exact ⟨by first | (simp [*]; done) | (simp [*]; intros; omega), hb2⟩
              · go_wp2
                go_ret
                exact ⟨by first | (simp [*]; done) | (simp [*]; intros; omega), hb2⟩
            · go_wp2
              go_ret
              exact ⟨by first | (simp [*]; done) | (simp [*]; intros; omega), hb2⟩
          · go_wp2
            go_ret
            exact ⟨by first | (simp [*]; done) | (simp [*]; intros; omega), hb2⟩
        · go_wp2
          go_ret
          exact ⟨by first | (simp [*]; done) | (simp [*]; intros; omega), hb2⟩
      · go_wp2
        go_ret
        exact ⟨by first | (simp [*]; done) | (simp [*]; intros; omega), hb2⟩
    · go_wp2
      go_ret
      exact ⟨by first | (simp [*]; done) | (simp [*]; intros; omega), hb2⟩
end Go.Proofs.YtgemjjpmoejgdaaGreat
/- A core of a small configuration. -/
namespace Go.Proofs.YtgemjjpmoejgdaaGreat
open Go.RowKit
set_option maxRecDepth 100000
set_option linter.unusedVariables false

set_option maxHeartbeats 2000000 in
theorem law03_Of (x : Nat → Int) (w : World) : Calls Tryz.prog 78 #[.agg #[.int .i64 (x 0), .int .i64 (x 1), .int .i64 (x 2), .int .i64 (x 3), .int .i64 (x 4), .int .i64 (x 5), .int .i64 (x 6), .int .i64 (x 7), .int .i64 (x 8), .int .i64 (x 9), .int .i64 (x 10), .int .i64 (x 11), .int .i64 (x 12)]] w fun e w' => e = .returned (.agg #[.int .i64 (x 0), .int .i64 (x 1), .int .i64 (x 2), .int .i64 (x 3), .int .i64 (x 4), .int .i64 (x 5), .int .i64 (x 6), .int .i64 (x 7), .int .i64 (x 8), .int .i64 (x 9), .int .i64 (x 10), .int .i64 (x 11), .int .i64 (x 12)]) ∧ Below w.heap.size w w' := by
  have hb : Below w.heap.size w ((w.alloc (.cells #[.int .i64 (x 0), .int .i64 (x 1), .int .i64 (x 2), .int .i64 (x 3), .int .i64 (x 4), .int .i64 (x 5), .int .i64 (x 6), .int .i64 (x 7), .int .i64 (x 8), .int .i64 (x 9), .int .i64 (x 10), .int .i64 (x 11), .int .i64 (x 12)] 23)).alloc (.cells #[.int .i64 0, .int .i64 0, .int .i64 0, .int .i64 0, .int .i64 0, .int .i64 0, .int .i64 0, .int .i64 0, .int .i64 0, .int .i64 0, .int .i64 0, .int .i64 0, .int .i64 0] 126)) := ((Below.refl _ _).alloc (Nat.le_refl _) _).alloc (by simp) _
  have e0 : ((w.alloc (.cells #[.int .i64 (x 0), .int .i64 (x 1), .int .i64 (x 2), .int .i64 (x 3), .int .i64 (x 4), .int .i64 (x 5), .int .i64 (x 6), .int .i64 (x 7), .int .i64 (x 8), .int .i64 (x 9), .int .i64 (x 10), .int .i64 (x 11), .int .i64 (x 12)] 23)).alloc (.cells #[.int .i64 0, .int .i64 0, .int .i64 0, .int .i64 0, .int .i64 0, .int .i64 0, .int .i64 0, .int .i64 0, .int .i64 0, .int .i64 0, .int .i64 0, .int .i64 0, .int .i64 0] 126)).cell? ⟨w.heap.size, 0, none⟩ = some (.int .i64 (x 0)) := by go_simp
  have e1 : ((w.alloc (.cells #[.int .i64 (x 0), .int .i64 (x 1), .int .i64 (x 2), .int .i64 (x 3), .int .i64 (x 4), .int .i64 (x 5), .int .i64 (x 6), .int .i64 (x 7), .int .i64 (x 8), .int .i64 (x 9), .int .i64 (x 10), .int .i64 (x 11), .int .i64 (x 12)] 23)).alloc (.cells #[.int .i64 0, .int .i64 0, .int .i64 0, .int .i64 0, .int .i64 0, .int .i64 0, .int .i64 0, .int .i64 0, .int .i64 0, .int .i64 0, .int .i64 0, .int .i64 0, .int .i64 0] 126)).cell? ⟨w.heap.size, 1, none⟩ = some (.int .i64 (x 1)) := by go_simp
  have e2 : ((w.alloc (.cells #[.int .i64 (x 0), .int .i64 (x 1), .int .i64 (x 2), .int .i64 (x 3), .int .i64 (x 4), .int .i64 (x 5), .int .i64 (x 6), .int .i64 (x 7), .int .i64 (x 8), .int .i64 (x 9), .int .i64 (x 10), .int .i64 (x 11), .int .i64 (x 12)] 23)).alloc (.cells #[.int .i64 0, .int .i64 0, .int .i64 0, .int .i64 0, .int .i64 0, .int .i64 0, .int .i64 0, .int .i64 0, .int .i64 0, .int .i64 0, .int .i64 0, .int .i64 0, .int .i64 0] 126)).cell? ⟨w.heap.size, 2, none⟩ = some (.int .i64 (x 2)) := by go_simp
  have e3 : ((w.alloc (.cells #[.int .i64 (x 0), .int .i64 (x 1), .int .i64 (x 2), .int .i64 (x 3), .int .i64 (x 4), .int .i64 (x 5), .int .i64 (x 6), .int .i64 (x 7), .int .i64 (x 8), .int .i64 (x 9), .int .i64 (x 10), .int .i64 (x 11), .int .i64 (x 12)] 23)).alloc (.cells #[.int .i64 0, .int .i64 0, .int .i64 0, .int .i64 0, .int .i64 0, .int .i64 0, .int .i64 0, .int .i64 0, .int .i64 0, .int .i64 0, .int .i64 0, .int .i64 0, .int .i64 0] 126)).cell? ⟨w.heap.size, 3, none⟩ = some (.int .i64 (x 3)) := by go_simp
  have e4 : ((w.alloc (.cells #[.int .i64 (x 0), .int .i64 (x 1), .int .i64 (x 2), .int .i64 (x 3), .int .i64 (x 4), .int .i64 (x 5), .int .i64 (x 6), .int .i64 (x 7), .int .i64 (x 8), .int .i64 (x 9), .int .i64 (x 10), .int .i64 (x 11), .int .i64 (x 12)] 23)).alloc (.cells #[.int .i64 0, .int .i64 0, .int .i64 0, .int .i64 0, .int .i64 0, .int .i64 0, .int .i64 0, .int .i64 0, .int .i64 0, .int .i64 0, .int .i64 0, .int .i64 0, .int .i64 0] 126)).cell? ⟨w.heap.size, 4, none⟩ = some (.int .i64 (x 4)) := by go_simp
  have e5 : ((w.alloc (.cells #[.int .i64 (x 0), .int .i64 (x 1), .int .i64 (x 2), .int .i64 (x 3), .int .i64 (x 4), .int .i64 (x 5), .int .i64 (x 6), .int .i64 (x 7), .int .i64 (x 8), .int .i64 (x 9), .int .i64 (x 10), .int .i64 (x 11), .int .i64 (x 12)] 23)).alloc (.cells #[.int .i64 0, .int .i64 0, .int .i64 0, .int .i64 0, .int .i64 0, .int .i64 0, .int .i64 0, .int .i64 0, .int .i64 0, .int .i64 0, .int .i64 0, .int .i64 0, .int .i64 0] 126)).cell? ⟨w.heap.size, 5, none⟩ = some (.int .i64 (x 5)) := by go_simp
  have e6 : ((w.alloc (.cells #[.int .i64 (x 0), .int .i64 (x 1), .int .i64 (x 2), .int .i64 (x 3), .int .i64 (x 4), .int .i64 (x 5), .int .i64 (x 6), .int .i64 (x 7), .int .i64 (x 8), .int .i64 (x 9), .int .i64 (x 10), .int .i64 (x 11), .int .i64 (x 12)] 23)).alloc (.cells #[.int .i64 0, .int .i64 0, .int .i64 0, .int .i64 0, .int .i64 0, .int .i64 0, .int .i64 0, .int .i64 0, .int .i64 0, .int .i64 0, .int .i64 0, .int .i64 0, .int .i64 0] 126)).cell? ⟨w.heap.size, 6, none⟩ = some (.int .i64 (x 6)) := by go_simp
  have e7 : ((w.alloc (.cells #[.int .i64 (x 0), .int .i64 (x 1), .int .i64 (x 2), .int .i64 (x 3), .int .i64 (x 4), .int .i64 (x 5), .int .i64 (x 6), .int .i64 (x 7), .int .i64 (x 8), .int .i64 (x 9), .int .i64 (x 10), .int .i64 (x 11), .int .i64 (x 12)] 23)).alloc (.cells #[.int .i64 0, .int .i64 0, .int .i64 0, .int .i64 0, .int .i64 0, .int .i64 0, .int .i64 0, .int .i64 0, .int .i64 0, .int .i64 0, .int .i64 0, .int .i64 0, .int .i64 0] 126)).cell? ⟨w.heap.size, 7, none⟩ = some (.int .i64 (x 7)) := by go_simp
  have e8 : ((w.alloc (.cells #[.int .i64 (x 0), .int .i64 (x 1), .int .i64 (x 2), .int .i64 (x 3), .int .i64 (x 4), .int .i64 (x 5), .int .i64 (x 6), .int .i64 (x 7), .int .i64 (x 8), .int .i64 (x 9), .int .i64 (x 10), .int .i64 (x 11), .int .i64 (x 12)] 23)).alloc (.cells #[.int .i64 0, .int .i64 0, .int .i64 0, .int .i64 0, .int .i64 0, .int .i64 0, .int .i64 0, .int .i64 0, .int .i64 0, .int .i64 0, .int .i64 0, .int .i64 0, .int .i64 0] 126)).cell? ⟨w.heap.size, 8, none⟩ = some (.int .i64 (x 8)) := by go_simp
  have e9 : ((w.alloc (.cells #[.int .i64 (x 0), .int .i64 (x 1), .int .i64 (x 2), .int .i64 (x 3), .int .i64 (x 4), .int .i64 (x 5), .int .i64 (x 6), .int .i64 (x 7), .int .i64 (x 8), .int .i64 (x 9), .int .i64 (x 10), .int .i64 (x 11), .int .i64 (x 12)] 23)).alloc (.cells #[.int .i64 0, .int .i64 0, .int .i64 0, .int .i64 0, .int .i64 0, .int .i64 0, .int .i64 0, .int .i64 0, .int .i64 0, .int .i64 0, .int .i64 0, .int .i64 0, .int .i64 0] 126)).cell? ⟨w.heap.size, 9, none⟩ = some (.int .i64 (x 9)) := by go_simp
  have e10 : ((w.alloc (.cells #[.int .i64 (x 0), .int .i64 (x 1), .int .i64 (x 2), .int .i64 (x 3), .int .i64 (x 4), .int .i64 (x 5), .int .i64 (x 6), .int .i64 (x 7), .int .i64 (x 8), .int .i64 (x 9), .int .i64 (x 10), .int .i64 (x 11), .int .i64 (x 12)] 23)).alloc (.cells #[.int .i64 0, .int .i64 0, .int .i64 0, .int .i64 0, .int .i64 0, .int .i64 0, .int .i64 0, .int .i64 0, .int .i64 0, .int .i64 0, .int .i64 0, .int .i64 0, .int .i64 0] 126)).cell? ⟨w.heap.size, 10, none⟩ = some (.int .i64 (x 10)) := by go_simp
  have e11 : ((w.alloc (.cells #[.int .i64 (x 0), .int .i64 (x 1), .int .i64 (x 2), .int .i64 (x 3), .int .i64 (x 4), .int .i64 (x 5), .int .i64 (x 6), .int .i64 (x 7), .int .i64 (x 8), .int .i64 (x 9), .int .i64 (x 10), .int .i64 (x 11), .int .i64 (x 12)] 23)).alloc (.cells #[.int .i64 0, .int .i64 0, .int .i64 0, .int .i64 0, .int .i64 0, .int .i64 0, .int .i64 0, .int .i64 0, .int .i64 0, .int .i64 0, .int .i64 0, .int .i64 0, .int .i64 0] 126)).cell? ⟨w.heap.size, 11, none⟩ = some (.int .i64 (x 11)) := by go_simp
  have e12 : ((w.alloc (.cells #[.int .i64 (x 0), .int .i64 (x 1), .int .i64 (x 2), .int .i64 (x 3), .int .i64 (x 4), .int .i64 (x 5), .int .i64 (x 6), .int .i64 (x 7), .int .i64 (x 8), .int .i64 (x 9), .int .i64 (x 10), .int .i64 (x 11), .int .i64 (x 12)] 23)).alloc (.cells #[.int .i64 0, .int .i64 0, .int .i64 0, .int .i64 0, .int .i64 0, .int .i64 0, .int .i64 0, .int .i64 0, .int .i64 0, .int .i64 0, .int .i64 0, .int .i64 0, .int .i64 0] 126)).cell? ⟨w.heap.size, 12, none⟩ = some (.int .i64 (x 12)) := by go_simp
  go_enter Tryz.func78, Tryz.ntmps78
  go_wp2_with fail
  exact bodyPost_ret (v := .agg #[.int .i64 (x 0), .int .i64 (x 1), .int .i64 (x 2), .int .i64 (x 3), .int .i64 (x 4), .int .i64 (x 5), .int .i64 (x 6), .int .i64 (x 7), .int .i64 (x 8), .int .i64 (x 9), .int .i64 (x 10), .int .i64 (x 11), .int .i64 (x 12)]) (by simp [results, Tryz.results78, go_sem]) rfl ⟨rfl, ((Below.refl _ _).alloc (Nat.le_refl _) _).alloc (by simp) _⟩
def cfOf (x : Nat → Int) : Cf := ⟨(x 0).toNat, (x 1).toNat, (x 2).toNat, (x 3).toNat, (x 4).toNat, (x 5).toNat, (x 6).toNat, (x 7).toNat, (x 8).toNat, (x 9).toNat, (x 10).toNat, (x 11).toNat, (x 12).toNat⟩
theorem cfOf_ok {x : Nat → Int} (h : okI x) : (cfOf x).Ok := by
  have h0 := h 0 (by decide)
  have h1 := h 1 (by decide)
  have h2 := h 2 (by decide)
  have h3 := h 3 (by decide)
  have h4 := h 4 (by decide)
  have h5 := h 5 (by decide)
  have h6 := h 6 (by decide)
  have h7 := h 7 (by decide)
  have h8 := h 8 (by decide)
  have h9 := h 9 (by decide)
  have h10 := h 10 (by decide)
  have h11 := h 11 (by decide)
  have h12 := h 12 (by decide)
  simp [leastN, mostN] at h0 h1 h2 h3 h4 h5 h6 h7 h8 h9 h10 h11 h12
  constructor <;> simp only [cfOf] <;> omega
theorem cfOf_vals {x : Nat → Int} (h : okI x) : (cfOf x).vals = #[.int .i64 (x 0), .int .i64 (x 1), .int .i64 (x 2), .int .i64 (x 3), .int .i64 (x 4), .int .i64 (x 5), .int .i64 (x 6), .int .i64 (x 7), .int .i64 (x 8), .int .i64 (x 9), .int .i64 (x 10), .int .i64 (x 11), .int .i64 (x 12)] := by
  have h0 := h 0 (by decide)
  have h1 := h 1 (by decide)
  have h2 := h 2 (by decide)
  have h3 := h 3 (by decide)
  have h4 := h 4 (by decide)
  have h5 := h 5 (by decide)
  have h6 := h 6 (by decide)
  have h7 := h 7 (by decide)
  have h8 := h 8 (by decide)
  have h9 := h 9 (by decide)
  have h10 := h 10 (by decide)
  have h11 := h 11 (by decide)
  have h12 := h 12 (by decide)
  simp [leastN, mostN] at h0 h1 h2 h3 h4 h5 h6 h7 h8 h9 h10 h11 h12
  unfold Cf.vals cfOf
  have g0 : (((x 0).toNat : Nat) : Int) = x 0 := by omega
  have g1 : (((x 1).toNat : Nat) : Int) = x 1 := by omega
  have g2 : (((x 2).toNat : Nat) : Int) = x 2 := by omega
  have g3 : (((x 3).toNat : Nat) : Int) = x 3 := by omega
  have g4 : (((x 4).toNat : Nat) : Int) = x 4 := by omega
  have g5 : (((x 5).toNat : Nat) : Int) = x 5 := by omega
  have g6 : (((x 6).toNat : Nat) : Int) = x 6 := by omega
  have g7 : (((x 7).toNat : Nat) : Int) = x 7 := by omega
  have g8 : (((x 8).toNat : Nat) : Int) = x 8 := by omega
  have g9 : (((x 9).toNat : Nat) : Int) = x 9 := by omega
  have g10 : (((x 10).toNat : Nat) : Int) = x 10 := by omega
  have g11 : (((x 11).toNat : Nat) : Int) = x 11 := by omega
  have g12 : (((x 12).toNat : Nat) : Int) = x 12 := by omega
  simp only [g0, g1, g2, g3, g4, g5, g6, g7, g8, g9, g10, g11, g12]
set_option maxHeartbeats 4000000 in
theorem law15_Begin (x : Nat → Int) (h : smallI x) (w : World) : Calls Tryz.prog 13 #[.agg #[.int .i64 (x 0), .int .i64 (x 1), .int .i64 (x 2), .int .i64 (x 3), .int .i64 (x 4), .int .i64 (x 5), .int .i64 (x 6), .int .i64 (x 7), .int .i64 (x 8), .int .i64 (x 9), .int .i64 (x 10), .int .i64 (x 11), .int .i64 (x 12)]] w fun e w' => ∃ E L w0, e = .returned (.pointer (some ⟨E.k, 0, none⟩)) ∧ Below w.heap.size w w0 ∧ Born (cfOf x) w0 E L w' := by
  have hb : Below w.heap.size w (w.alloc (.cells #[.int .i64 (x 0), .int .i64 (x 1), .int .i64 (x 2), .int .i64 (x 3), .int .i64 (x 4), .int .i64 (x 5), .int .i64 (x 6), .int .i64 (x 7), .int .i64 (x 8), .int .i64 (x 9), .int .i64 (x 10), .int .i64 (x 11), .int .i64 (x 12)] 23)) := (Below.refl _ _).alloc (Nat.le_refl _) _
  have e0 : (w.alloc (.cells #[.int .i64 (x 0), .int .i64 (x 1), .int .i64 (x 2), .int .i64 (x 3), .int .i64 (x 4), .int .i64 (x 5), .int .i64 (x 6), .int .i64 (x 7), .int .i64 (x 8), .int .i64 (x 9), .int .i64 (x 10), .int .i64 (x 11), .int .i64 (x 12)] 23)).cell? ⟨w.heap.size, 0, none⟩ = some (.int .i64 (x 0)) := by go_simp
  have e1 : (w.alloc (.cells #[.int .i64 (x 0), .int .i64 (x 1), .int .i64 (x 2), .int .i64 (x 3), .int .i64 (x 4), .int .i64 (x 5), .int .i64 (x 6), .int .i64 (x 7), .int .i64 (x 8), .int .i64 (x 9), .int .i64 (x 10), .int .i64 (x 11), .int .i64 (x 12)] 23)).cell? ⟨w.heap.size, 1, none⟩ = some (.int .i64 (x 1)) := by go_simp
  have e2 : (w.alloc (.cells #[.int .i64 (x 0), .int .i64 (x 1), .int .i64 (x 2), .int .i64 (x 3), .int .i64 (x 4), .int .i64 (x 5), .int .i64 (x 6), .int .i64 (x 7), .int .i64 (x 8), .int .i64 (x 9), .int .i64 (x 10), .int .i64 (x 11), .int .i64 (x 12)] 23)).cell? ⟨w.heap.size, 2, none⟩ = some (.int .i64 (x 2)) := by go_simp
  have e3 : (w.alloc (.cells #[.int .i64 (x 0), .int .i64 (x 1), .int .i64 (x 2), .int .i64 (x 3), .int .i64 (x 4), .int .i64 (x 5), .int .i64 (x 6), .int .i64 (x 7), .int .i64 (x 8), .int .i64 (x 9), .int .i64 (x 10), .int .i64 (x 11), .int .i64 (x 12)] 23)).cell? ⟨w.heap.size, 3, none⟩ = some (.int .i64 (x 3)) := by go_simp
  have e4 : (w.alloc (.cells #[.int .i64 (x 0), .int .i64 (x 1), .int .i64 (x 2), .int .i64 (x 3), .int .i64 (x 4), .int .i64 (x 5), .int .i64 (x 6), .int .i64 (x 7), .int .i64 (x 8), .int .i64 (x 9), .int .i64 (x 10), .int .i64 (x 11), .int .i64 (x 12)] 23)).cell? ⟨w.heap.size, 4, none⟩ = some (.int .i64 (x 4)) := by go_simp
  have e5 : (w.alloc (.cells #[.int .i64 (x 0), .int .i64 (x 1), .int .i64 (x 2), .int .i64 (x 3), .int .i64 (x 4), .int .i64 (x 5), .int .i64 (x 6), .int .i64 (x 7), .int .i64 (x 8), .int .i64 (x 9), .int .i64 (x 10), .int .i64 (x 11), .int .i64 (x 12)] 23)).cell? ⟨w.heap.size, 5, none⟩ = some (.int .i64 (x 5)) := by go_simp
  have e6 : (w.alloc (.cells #[.int .i64 (x 0), .int .i64 (x 1), .int .i64 (x 2), .int .i64 (x 3), .int .i64 (x 4), .int .i64 (x 5), .int .i64 (x 6), .int .i64 (x 7), .int .i64 (x 8), .int .i64 (x 9), .int .i64 (x 10), .int .i64 (x 11), .int .i64 (x 12)] 23)).cell? ⟨w.heap.size, 6, none⟩ = some (.int .i64 (x 6)) := by go_simp
  have e7 : (w.alloc (.cells #[.int .i64 (x 0), .int .i64 (x 1), .int .i64 (x 2), .int .i64 (x 3), .int .i64 (x 4), .int .i64 (x 5), .int .i64 (x 6), .int .i64 (x 7), .int .i64 (x 8), .int .i64 (x 9), .int .i64 (x 10), .int .i64 (x 11), .int .i64 (x 12)] 23)).cell? ⟨w.heap.size, 7, none⟩ = some (.int .i64 (x 7)) := by go_simp
  have e8 : (w.alloc (.cells #[.int .i64 (x 0), .int .i64 (x 1), .int .i64 (x 2), .int .i64 (x 3), .int .i64 (x 4), .int .i64 (x 5), .int .i64 (x 6), .int .i64 (x 7), .int .i64 (x 8), .int .i64 (x 9), .int .i64 (x 10), .int .i64 (x 11), .int .i64 (x 12)] 23)).cell? ⟨w.heap.size, 8, none⟩ = some (.int .i64 (x 8)) := by go_simp
  have e9 : (w.alloc (.cells #[.int .i64 (x 0), .int .i64 (x 1), .int .i64 (x 2), .int .i64 (x 3), .int .i64 (x 4), .int .i64 (x 5), .int .i64 (x 6), .int .i64 (x 7), .int .i64 (x 8), .int .i64 (x 9), .int .i64 (x 10), .int .i64 (x 11), .int .i64 (x 12)] 23)).cell? ⟨w.heap.size, 9, none⟩ = some (.int .i64 (x 9)) := by go_simp
  have e10 : (w.alloc (.cells #[.int .i64 (x 0), .int .i64 (x 1), .int .i64 (x 2), .int .i64 (x 3), .int .i64 (x 4), .int .i64 (x 5), .int .i64 (x 6), .int .i64 (x 7), .int .i64 (x 8), .int .i64 (x 9), .int .i64 (x 10), .int .i64 (x 11), .int .i64 (x 12)] 23)).cell? ⟨w.heap.size, 10, none⟩ = some (.int .i64 (x 10)) := by go_simp
  have e11 : (w.alloc (.cells #[.int .i64 (x 0), .int .i64 (x 1), .int .i64 (x 2), .int .i64 (x 3), .int .i64 (x 4), .int .i64 (x 5), .int .i64 (x 6), .int .i64 (x 7), .int .i64 (x 8), .int .i64 (x 9), .int .i64 (x 10), .int .i64 (x 11), .int .i64 (x 12)] 23)).cell? ⟨w.heap.size, 11, none⟩ = some (.int .i64 (x 11)) := by go_simp
  have e12 : (w.alloc (.cells #[.int .i64 (x 0), .int .i64 (x 1), .int .i64 (x 2), .int .i64 (x 3), .int .i64 (x 4), .int .i64 (x 5), .int .i64 (x 6), .int .i64 (x 7), .int .i64 (x 8), .int .i64 (x 9), .int .i64 (x 10), .int .i64 (x 11), .int .i64 (x 12)] 23)).cell? ⟨w.heap.size, 12, none⟩ = some (.int .i64 (x 12)) := by go_simp
  have HS := Go.Lib.hid (law15_Small x)
  have HO := Go.Lib.hid (law03_Of x)
  have hn := core_new (cfOf x) (cfOf_ok h.1)
  rw [cfOf_vals h.1] at hn
  have HN := Go.Lib.hid hn
  rw [decide_eq_true h] at HS
  clear hn h
  go_enter Tryz.func13, Tryz.ntmps13
  go_wp2_with fail
  refine (HS.out _).mono ?_
  rintro e w1 ⟨rfl, hb1⟩
  have e0 := below_cell hb1 e0
  have e1 := below_cell hb1 e1
  have e2 := below_cell hb1 e2
  have e3 := below_cell hb1 e3
  have e4 := below_cell hb1 e4
  have e5 := below_cell hb1 e5
  have e6 := below_cell hb1 e6
  have e7 := below_cell hb1 e7
  have e8 := below_cell hb1 e8
  have e9 := below_cell hb1 e9
  have e10 := below_cell hb1 e10
  have e11 := below_cell hb1 e11
  have e12 := below_cell hb1 e12
  have hb := hb.trans (hb1.mono hb.size)
  clear hb1
  go_wp2_with fail
  refine (HO.out _).mono ?_
  rintro e w2 ⟨rfl, hb1⟩
  have hb2 := hb.trans (hb1.mono hb.size)
  clear hb1 hb
  go_wp2_with fail
  refine (HN.out _).mono ?_
  rintro e w3 ⟨E, L, rfl, hborn⟩
  have HBO := Go.Lib.hid hborn
  clear hborn
  go_wp2
  go_ret
  exact ⟨E, L, w2, rfl, hb2, HBO.out⟩
end Go.Proofs.YtgemjjpmoejgdaaGreat
/- The document's powers; the arena's count. -/
namespace Go.Proofs.YtgemjjpmoejgdaaGreat
open Go.RowKit
set_option maxRecDepth 100000
set_option linter.unusedVariables false

set_option maxHeartbeats 400000 in
theorem arena_count {E : G} {L : Lab} {S : St} {w : World} (hg : Good E L S w) :
    Calls Tryz.prog 107 #[.pointer (some ⟨E.a, 0, none⟩)] w fun e w' => e = .returned (.int .i64 S.cnt) ∧ w' = w := by
  have h1 := hg.ar.a1
  clear hg
  go_enter Tryz.func107, Tryz.ntmps107
  go_wp2_with (go_at_call 193; refine (i64_load _ _ _ _ h1).mono ?_; rintro e w' ⟨rfl, rfl⟩)
  go_ret
  exact ⟨rfl, rfl⟩
end Go.Proofs.YtgemjjpmoejgdaaGreat
/- A new task. -/
namespace Go.Proofs.YtgemjjpmoejgdaaGreat
open Go.RowKit
set_option maxRecDepth 100000
set_option linter.unusedVariables false

set_option maxHeartbeats 400000 in
theorem step_New (f : FuncId) (rc cap : Array Value) (w : World) :
    Calls Tryz.prog 17 #[.func (.func f) rc cap] w fun e w' => e = .returned (.pointer (some ⟨w.heap.size, 0, none⟩)) ∧ w' = w.alloc (.cells #[.func (.func f) rc cap, .int .i64 0] 142) := by
  go_enter Tryz.func17, Tryz.ntmps17
  go_wp2
  go_ret
  exact ⟨rfl, rfl⟩

/-- A new task's record is its own. -/
theorem Good.task {E : G} {L : Lab} {S : St} {w : World} (h : Good E L S w) (t : Nat) (v : Value) (ty : TypeId) :
    Good E (fun b => if b = w.heap.size then 5000 + t else L b) S (w.alloc (.cells #[v, .int .i64 0] ty)) ∧
      TaskAt (w.alloc (.cells #[v, .int .i64 0] ty)) (fun b => if b = w.heap.size then 5000 + t else L b) t w.heap.size v 0 ∧
      Ext t L w (fun b => if b = w.heap.size then 5000 + t else L b) (w.alloc (.cells #[v, .int .i64 0] ty)) := by
  have hb : Below w.heap.size w (w.alloc (.cells #[v, .int .i64 0] ty)) := (Below.refl _ _).alloc (Nat.le_refl _) _
  have hg := h.below hb
  have hL : ∀ b, b < w.heap.size → (if b = w.heap.size then 5000 + t else L b) = L b := fun b hb => by rw [if_neg (by omega)]
  have hne : ∀ b, L b ≠ 0 → b ≠ w.heap.size := fun b hb e => hb (e ▸ h.new _ (Nat.le_refl _))
  refine ⟨⟨hg.ok, hg.k0, hg.k1, hg.pl, hg.ar, ?_, ?_, ?_, ?_, ?_, ?_, ?_⟩, ⟨?_, ?_, ?_, ?_, ?_⟩, ⟨hb.os, hb.tape, hb.output, hb.size, fun b hb' _ => hb.block b hb', hL⟩⟩
  · exact h.lg.below (hb.block _ (cell_lt h.k0)) (fun g hg hlt => ⟨hb.block g hlt, hL g hlt⟩)
  · intro b o v' hv
    obtain ⟨r1, r2, r3⟩ := hg.rg b o v' hv
    refine ⟨r1, r2, ?_⟩
    rw [if_neg (hne b (by omega))]; exact r3
  · rw [if_neg (hne _ (by have := h.lk; omega))]; exact h.lk
  · rw [if_neg (by have := cell_lt h.pl.c0; dsimp only at this; omega)]; exact h.lp
  · rw [if_neg (hne _ (by have := h.la; omega))]; exact h.la
  · rw [if_neg (hne _ (by have := h.lc; omega))]; exact h.lc
  · intro b hb'
    rw [World.size_alloc] at hb'
    rw [if_neg (by omega)]; exact h.new b (by omega)
  · simp
  · simp
  · simp
  · simp
  · simp
end Go.Proofs.YtgemjjpmoejgdaaGreat
/- Code that is done to its end. -/
namespace Go.Proofs.YtgemjjpmoejgdaaGreat
open Go.RowKit
set_option maxRecDepth 100000
set_option linter.unusedVariables false

section
variable {ρ : Type} {R : ρ → Arg → St → St × Option (K ρ)} {cf : Cf} {E : G} {t : Nat}

/-- Code ends within so many steps, each of which touches one cell at most. -/
inductive Runs (cf : Cf) (R : ρ → Arg → St → St × Option (K ρ)) : K ρ → St → Nat → St → Prop
  | last {κ : K ρ} {S S' : St} : step cf R κ S = (S', none) → Bd S' → S'.cnt ≤ S.cnt + 1 → Runs cf R κ S 1 S'
  | more {κ κ1 : K ρ} {S S1 S' : St} {m : Nat} : step cf R κ S = (S1, some κ1) → Bd S1 → S1.cnt ≤ S.cnt + 1 → Runs cf R κ1 S1 m S' → Runs cf R κ S (m + 1) S'
theorem Runs.pos {κ : K ρ} {S S' : St} {m : Nat} (h : Runs cf R κ S m S') : 1 ≤ m := by cases h <;> omega

set_option maxHeartbeats 4000000 in
theorem law15_done {L : Lab} {S S' : St} {w : World} {v : Value} {κ : K ρ} {m most : Nat} (hg : Good E L S w) (ht : t < 4000) (hm : m ≤ most) (hmo : most ≤ 1000000) (hk : CodeSim cf R E t (m + 1) L w v (some κ)) (hr : Runs cf R κ S m S') :
    Calls Tryz.prog 27 #[.pointer (some ⟨E.k, 0, none⟩), v, .int .i64 most] w fun e w' => ∃ L', e = .returned (.bool true) ∧ Good E L' S' w' ∧ DidP (TP t) L w L' w' := by
  obtain ⟨f, cap, rfl, hf, _⟩ := id hk
  obtain ⟨hg1, ht1, hx1⟩ := hg.task t (.func (.func f) #[] cap) 142
  have hk1 := CodeSim.ext cf R E t hk hx1
  have hd1 : DidP (TP t) L w (fun b => if b = w.heap.size then 5000 + t else L b) (w.alloc (.cells #[.func (.func f) #[] cap, .int .i64 0] 142)) := ⟨rfl, rfl, rfl, by simp, fun b hb _ => Below.heap_alloc _ _ _ hb, fun b hb => by rw [if_neg (by omega)]⟩
  have HI := Go.Lib.hid (And.intro hg1 (And.intro ht1 (And.intro hk1 hd1)))
  have HR := Go.Lib.hid hr
  have HN := Go.Lib.hid (step_New f #[] cap w)
  clear hg1 ht1 hx1 hk1 hd1 hk hr hf hg
  generalize (fun b => if b = w.heap.size then 5000 + t else L b) = L1 at *
  go_enter Tryz.func27, Tryz.ntmps27
  go_wp2_with fail
  refine HN.out.mono ?_
  rintro e w' ⟨rfl, rfl⟩
  generalize (w.alloc (.cells #[.func (.func f) #[] cap, .int .i64 0] 142)) = W1 at *
  generalize w.heap.size = tb at *
  go_wp2
  go_loopw [8, 14] (fun _ i wr => ∃ (j : Nat) (κ1 : K ρ) (S1 : St) (m1 : Nat) (v1 : Value) (L2 : Lab), i = .int .i64 j ∧ m1 + j ≤ most ∧ Runs cf R κ1 S1 m1 S' ∧ Good E L2 S1 wr ∧ TaskAt wr L2 t tb v1 j ∧ CodeSim cf R E t (m1 + 1) L2 wr v1 (some κ1) ∧ DidP (TP t) L w L2 wr) (fun _ i _ => most - (intOf i).toNat)
  case atStart => exact ⟨0, κ, S, m, _, L1, rfl, by omega, HR.out, HI.out.1, HI.out.2.1, HI.out.2.2.1, HI.out.2.2.2⟩
  case round =>
    obtain ⟨j, κ1, S1, m1, v1, L2, rfl, hj, hr, hg, htk, hk, hd⟩ := hrel
    have hjm := hr.pos
    have hD : ((j : Int) < (most : Int)) := by omega
    have hcb := hg.ar.cnt2
    have HG := Go.Lib.hid hg
    cases hr with
    | last h1 h2 h3 =>
      have HS := Go.Lib.hid (fun hbd => task_step (n := 0) hg htk hk hbd (by omega) ht)
      rw [h1] at HS
      have HCO := Go.Lib.hid (arena_count hg)
      have HD := Go.Lib.hid hd
      clear h1 hg htk hk hd
      have hw1 : IntKind.i64.wrap ((S1.cnt : Int) + 1) = (S1.cnt : Int) + 1 := IntWalk.i64_in _ (by omega)
      go_wp2_with (first
        | (go_at_call 44; refine (core_cells HG.out).mono ?_; rintro e w' ⟨rfl, rfl⟩)
        | (go_at_call 107; refine HCO.out.mono ?_; rintro e w' ⟨rfl, rfl⟩)
        | fail)
      refine (HS.out h2).mono ?_
      rintro e w2 ⟨v2, L3, rfl, hd2, hg2, ht2, hk2⟩
      have HG2 := Go.Lib.hid hg2
      have HCO2 := Go.Lib.hid (arena_count hg2)
      have HD2 := Go.Lib.hid hd2
      have hle : ((S'.cnt : Int) ≤ (S1.cnt : Int) + 1) := by omega
      have hDle : decide ((S'.cnt : Int) ≤ (S1.cnt : Int) + 1) = true := by simpa using hle
      clear hg2 hd2 ht2 hk2
      go_wp2_with (first
        | (go_at_call 44; refine (core_cells HG2.out).mono ?_; rintro e w' ⟨rfl, rfl⟩)
        | (go_at_call 107; refine HCO2.out.mono ?_; rintro e w' ⟨rfl, rfl⟩)
        | fail)
      go_ret
      exact ⟨L3, by first | rfl | simp [hle], HG2.out, HD.out.trans HD2.out⟩
    | more h1 h2 h3 h4 =>
      rename_i κ2 S2 m2
      have HS := Go.Lib.hid (fun hbd => task_step (n := m2) hg htk hk hbd (by omega) ht)
      rw [h1] at HS
      have HCO := Go.Lib.hid (arena_count hg)
      have HD := Go.Lib.hid hd
      have HR4 := Go.Lib.hid h4
      clear h1 hg htk hk hd h4
      have hw1 : IntKind.i64.wrap ((S1.cnt : Int) + 1) = (S1.cnt : Int) + 1 := IntWalk.i64_in _ (by omega)
      go_wp2_with (first
        | (go_at_call 44; refine (core_cells HG.out).mono ?_; rintro e w' ⟨rfl, rfl⟩)
        | (go_at_call 107; refine HCO.out.mono ?_; rintro e w' ⟨rfl, rfl⟩)
        | fail)
      refine (HS.out h2).mono ?_
      rintro e w2 ⟨v2, L3, rfl, hd2, hg2, ht2, hk2⟩
      have HG2 := Go.Lib.hid hg2
      have HCO2 := Go.Lib.hid (arena_count hg2)
      have HD2 := Go.Lib.hid hd2
      have HT2 := Go.Lib.hid ht2
      have HK2 := Go.Lib.hid hk2
      have hle : ((S2.cnt : Int) ≤ (S1.cnt : Int) + 1) := by omega
      have hDle : decide ((S1.cnt : Int) + 1 < (S2.cnt : Int)) = false := by simp; omega
      clear hg2 hd2 ht2 hk2
      go_wp2_with (first
        | (go_at_call 44; refine (core_cells HG2.out).mono ?_; rintro e w' ⟨rfl, rfl⟩)
        | (go_at_call 107; refine HCO2.out.mono ?_; rintro e w' ⟨rfl, rfl⟩)
        | fail)
      refine ⟨⟨j + 1, κ2, S2, m2, v2, L3, by go_num, by omega, HR4.out, HG2.out, HT2.out, HK2.out, HD.out.trans HD2.out⟩, by simp [intOf]; omega⟩
end
end Go.Proofs.YtgemjjpmoejgdaaGreat
