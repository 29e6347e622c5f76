/- A shard's box and wheel, of a core in which nothing has happened. -/
import Derived.Test.YtlbjjooiiikmjaaTi
namespace Go.Proofs.Ytlbjjooiiikmjaa
open Go.RowKit
set_option maxRecDepth 100000
set_option linter.unusedVariables false

theorem shard_place {c : Cf} {s far : Nat} (hs : s < c.workers) (hf : far < c.shard) : 3 + s * c.shard + far < c.nodesAt := by
  have h1 : (s + 1) * c.shard ≤ c.workers * c.shard := Nat.mul_le_mul_right _ hs
  rw [Nat.add_mul, Nat.one_mul] at h1
  unfold Cf.nodesAt
  omega
theorem at_at {c : Cf} {s : Nat} (hs : s < c.workers) : c.at_ s = ((3 + s * c.shard : Nat) : Int) := by
  unfold Cf.at_
  rw [among_yes ⟨by omega, by omega⟩, Int.natCast_add, Int.natCast_mul]
  rfl
theorem within_nat (a b : Nat) : within (a : Int) (b : Int) = ((a + b : Nat) : Int) := by
  unfold within
  rw [if_neg (by omega), Int.natCast_add]
theorem inbox_at {c : Cf} {s : Nat} (hs : s < c.workers) : ∃ k : Nat, c.inbox s = (k : Int) ∧ 3 ≤ k ∧ k < c.nodesAt := by
  refine ⟨3 + s * c.shard, at_at hs, by omega, ?_⟩
  have := shard_place (far := 0) hs (by unfold Cf.shard; omega)
  omega
theorem over_at {c : Cf} {s : Nat} (hs : s < c.workers) : ∃ k : Nat, c.over s = (k : Int) ∧ 3 ≤ k ∧ k < c.nodesAt := by
  refine ⟨3 + s * c.shard + 2, ?_, by omega, shard_place hs (by unfold Cf.shard; omega)⟩
  unfold Cf.over
  rw [at_at hs]
  exact within_nat _ 2
theorem slot_at {c : Cf} {s level i : Nat} (hs : s < c.workers) (hl : level < c.levels) (hi : i < c.slots) : ∃ k : Nat, c.slot s level i = (k : Int) ∧ 3 ≤ k ∧ k < c.nodesAt := by
  have h1 : (level + 1) * (1 + c.slots) ≤ c.levels * (1 + c.slots) := Nat.mul_le_mul_right _ hl
  rw [Nat.add_mul, Nat.one_mul] at h1
  refine ⟨3 + s * c.shard + (3 + level * (1 + c.slots) + (1 + i)), ?_, by omega, shard_place hs (by unfold Cf.shard; omega)⟩
  have e1 : among 3 (level : Int) c.levels (1 + (c.slots : Int)) = ((3 + level * (1 + c.slots) : Nat) : Int) := by
    rw [among_yes ⟨by omega, by omega⟩, Int.natCast_add, Int.natCast_mul, Int.natCast_add]; rfl
  have e2 : among 1 (i : Int) c.slots 1 = ((1 + i : Nat) : Int) := by
    rw [among_yes ⟨by omega, by omega⟩]; omega
  unfold Cf.slot Cf.map
  rw [at_at hs, e1, e2, within_nat, within_nat, Nat.add_assoc]

set_option maxHeartbeats 1000000 in
theorem wheel2 {E : G} {L : Lab} {S : St} {w : World} (hg : Good E L S w) (s level i : Int) (b0 b1 : Nat) (h0 : w.cell? ⟨b0, 0, none⟩ = some (.pointer (some ⟨E.k, 0, none⟩))) (h1 : w.cell? ⟨b1, 0, none⟩ = some (.int .i64 s)) :
    Calls Try.prog 58 #[.int .i64 level, .int .i64 i, .pointer (some ⟨b0, 0, none⟩), .pointer (some ⟨b1, 0, none⟩)] w (Qt (.int .i64 (E.cf.slot s level i)) w) := by
  have k0 := hg.k0
  have HP : Hid (∀ q, Calls Try.prog 59 #[.pointer (some ⟨E.p, 0, none⟩), .int .i64 s, .int .i64 level, .int .i64 i] (w.drewN q) (Qt (.int .i64 (E.cf.slot s level i)) (w.drewN q))) := fun q => plan_Slot hg.ok E.p s level i _ (hg.drewN q).pl
  clear hg
  go_enter Try.func58, Try.ntmps58
  go_wp2
  go_quiet (first | (go_at_call 59; refine Calls.quiet_of (HP.out _)))
  go_wp2
  go_ret
  exact ⟨rfl, _, rfl⟩
theorem enters_wheel2 : EntersF 58 := enters_of Try.func58 (by kernel_rfl) rfl
def listIx (c : Cf) (s level i : Int) : Int := if (c.levels : Int) ≤ level then c.over s else c.slot s level i
set_option maxHeartbeats 1000000 in
theorem wheel_ix {E : G} {L : Lab} {S : St} {w : World} (hg : Good E L S w) (s level i : Int) (b : Nat) (h0 : w.cell? ⟨b, 0, none⟩ = some (.pointer (some ⟨E.k, 0, none⟩))) (h1 : w.cell? ⟨b + 1, 0, none⟩ = some (.int .i64 s)) :
    Calls Try.prog 61 #[wheelVal E s b, .int .i64 level, .int .i64 i] w fun e w' => e = .returned (.int .i64 (listIx E.cf s level i)) ∧ Below w.heap.size w w' := by
  have hf2 : ∀ (args : Array Value) (w : World), (callFunc 58 args).run Try.prog w = .ok (.enter 58 args) w := enters_wheel2
  unfold listIx
  by_cases hl : (E.cf.levels : Int) ≤ level
  · rw [if_pos hl]
    have hd : decide ((E.cf.levels : Int) ≤ level) = true := by simpa using hl
    unfold wheelVal linkVal
    clear hg h0 h1
    go_enter Try.func61, Try.ntmps61
    go_wp2
    go_ret
    exact ⟨rfl, (Below.refl _ _).alloc (Nat.le_refl _) _⟩
  · rw [if_neg hl]
    have hd : decide ((E.cf.levels : Int) ≤ level) = false := by simpa using hl
    have HW : Hid (∀ W, Below w.heap.size w W → Calls Try.prog 58 #[.int .i64 level, .int .i64 i, .pointer (some ⟨b, 0, none⟩), .pointer (some ⟨b + 1, 0, none⟩)] W (Qt (.int .i64 (E.cf.slot s level i)) W)) := fun W hW => wheel2 (hg.below hW) s level i b (b + 1) (below_cell hW h0) (below_cell hW h1)
    have hal : ∀ o, Below w.heap.size w (w.alloc o) := fun o => (Below.refl _ _).alloc (Nat.le_refl _) _
    have HAL := Go.Lib.hid hal
    unfold wheelVal linkVal
    clear hg h0 h1 hal
    go_enter Try.func61, Try.ntmps61
    go_wp2_with fail
    refine (HW.out _ (HAL.out _)).mono ?_
    intro e w2 hq
    obtain ⟨rfl, hb2⟩ := hq.below
    go_wp2
    go_ret
    exact ⟨rfl, (HAL.out _).trans (hb2.mono (HAL.out _).size)⟩

set_option maxHeartbeats 2000000 in
theorem wheel_each {E : G} {L : Lab} {S : St} {w : World} (hg : Good E L S w) (s level i : Int) (b ab n ta tw to : Nat) (h0 : w.cell? ⟨b, 0, none⟩ = some (.pointer (some ⟨E.k, 0, none⟩))) (h1 : w.cell? ⟨b + 1, 0, none⟩ = some (.int .i64 s))
    (ha : w.cell? ⟨ta, 0, none⟩ = some (.slice (some ⟨ab, 0, none⟩) n n))
    (w0 : w.cell? ⟨tw, 0, none⟩ = some (.pointer (some ⟨E.a, 0, none⟩))) (w1 : w.cell? ⟨tw, 1, none⟩ = some (.int .i64 E.cf.levels)) (w2 : w.cell? ⟨tw, 2, none⟩ = some (.int .i64 E.cf.bits)) (w3 : w.cell? ⟨tw, 3, none⟩ = some (.int .i64 (E.cf.over s)))
    (w4 : w.cell? ⟨tw, 4, none⟩ = some (.func (.func 56) #[] #[.pointer (some ⟨b, 0, none⟩), .pointer (some ⟨b + 1, 0, none⟩)])) (w5 : w.cell? ⟨tw, 5, none⟩ = some (.func (.func 58) #[] #[.pointer (some ⟨b, 0, none⟩), .pointer (some ⟨b + 1, 0, none⟩)])) (w6 : w.cell? ⟨tw, 6, none⟩ = some (linkVal 52 E))
    (k : Nat) (hk : listIx E.cf s level i = (k : Int)) (hkn : k < n) (hc : w.cell? ⟨ab, k, none⟩ = some (.int .u64 0)) :
    Calls Try.prog 60 #[.int .i64 level, .int .i64 i, .pointer (some ⟨ta, 0, none⟩), .pointer (some ⟨tw, 0, none⟩), .pointer (some ⟨to, 0, none⟩)] w fun e w' => e = .returned (.tuple #[]) ∧ Below w.heap.size w w' := by
  have HW : Hid (∀ W, Below w.heap.size w W → Calls Try.prog 61 #[wheelVal E s b, .int .i64 level, .int .i64 i] W fun e w' => e = .returned (.int .i64 k) ∧ Below W.heap.size W w') := fun W hW => by
    have h := wheel_ix (hg.below hW) s level i b (below_cell hW h0) (below_cell hW h1)
    rwa [hk] at h
  unfold wheelVal linkVal at HW
  unfold linkVal at w6
  clear hg h0 h1 hk
  have ha' : ∀ d os, (Sort.grow (redrawn w d) os).cell? ⟨ta, 0, none⟩ = some (.slice (some ⟨ab, 0, none⟩) n n) := fun d os => cell_regrown ha d os
  have w0' : ∀ d os, (Sort.grow (redrawn w d) os).cell? ⟨tw, 0, none⟩ = some (.pointer (some ⟨E.a, 0, none⟩)) := fun d os => cell_regrown w0 d os
  have w1' : ∀ d os, (Sort.grow (redrawn w d) os).cell? ⟨tw, 1, none⟩ = some (.int .i64 E.cf.levels) := fun d os => cell_regrown w1 d os
  have w2' : ∀ d os, (Sort.grow (redrawn w d) os).cell? ⟨tw, 2, none⟩ = some (.int .i64 E.cf.bits) := fun d os => cell_regrown w2 d os
  have w3' : ∀ d os, (Sort.grow (redrawn w d) os).cell? ⟨tw, 3, none⟩ = some (.int .i64 (E.cf.over s)) := fun d os => cell_regrown w3 d os
  have w4' : ∀ d os, (Sort.grow (redrawn w d) os).cell? ⟨tw, 4, none⟩ = some (.func (.func 56) #[] #[.pointer (some ⟨b, 0, none⟩), .pointer (some ⟨b + 1, 0, none⟩)]) := fun d os => cell_regrown w4 d os
  have w5' : ∀ d os, (Sort.grow (redrawn w d) os).cell? ⟨tw, 5, none⟩ = some (.func (.func 58) #[] #[.pointer (some ⟨b, 0, none⟩), .pointer (some ⟨b + 1, 0, none⟩)]) := fun d os => cell_regrown w5 d os
  have w6' : ∀ d os, (Sort.grow (redrawn w d) os).cell? ⟨tw, 6, none⟩ = some (.func (.func 52) #[.pointer (some ⟨E.p, 0, none⟩)] #[]) := fun d os => cell_regrown w6 d os
  have hc' : ∀ d os, (Sort.grow (redrawn w d) os).cell? ⟨ab, k, none⟩ = some (.int .u64 0) := fun d os => cell_regrown hc d os
  have i1 : (0 : Int) ≤ (k : Int) := Int.natCast_nonneg _
  have i2 : (k : Int) < (n : Int) := Int.ofNat_lt.2 hkn
  go_enter Try.func60, Try.ntmps60
  go_wp2
  refine wp_region_quiet_below (by kernel_rfl) (by kernel_rfl) ?_
  repeat (go_big_quiet_step (first
    | (go_at_call 61; rename_i p; exact Calls.regrown_of (HW.out _ (below_regrown w p.d p.os)))))
  refine wpQuiet_nil ?_
  intro w9 hw'
  obtain ⟨p, rfl⟩ := hw'
  have hb := below_regrown w p.d p.os
  generalize Sort.grow (redrawn w p.d) p.os = w9 at *
  go_wp2
  refine wp_loop_rounds 1 ?_
  rw [rounds_succ]
  go_wp2
  go_end0
  exact ⟨rfl, hb⟩
theorem enters_each : EntersF 60 := enters_of Try.func60 (by kernel_rfl) rfl
set_option maxHeartbeats 4000000 in
theorem wheel_list0 {E : G} {L : Lab} {S : St} {w : World} (hg : Good E L S w) (s : Nat) (hs : s < E.cf.workers) (b : Nat) (h0 : w.cell? ⟨b, 0, none⟩ = some (.pointer (some ⟨E.k, 0, none⟩))) (h1 : w.cell? ⟨b + 1, 0, none⟩ = some (.int .i64 s))
    (hz : ∀ k, 3 ≤ k → k < E.cf.nodesAt → S.m k = 0) (hsz : E.cf.nodesAt ≤ S.n) :
    Calls Try.prog 32 #[wheelVal E s b] w fun e w' => e = .returned (.slice none 0 0) ∧ Below w.heap.size w w' := by
  have hok := hg.ok
  have hbt := hok.b2
  have hsl := hok.slots_le
  have hlv := hok.l2
  have hal : Below w.heap.size w (w.alloc (.cells #[.pointer (some ⟨E.a, 0, none⟩), .int .i64 E.cf.levels, .int .i64 E.cf.bits, .int .i64 (E.cf.over s), .func (.func 56) #[] #[.pointer (some ⟨b, 0, none⟩), .pointer (some ⟨b + 1, 0, none⟩)], .func (.func 58) #[] #[.pointer (some ⟨b, 0, none⟩), .pointer (some ⟨b + 1, 0, none⟩)], .func (.func 52) #[.pointer (some ⟨E.p, 0, none⟩)] #[]] 67)) := (Below.refl _ _).alloc (Nat.le_refl _) _
  have q0 : (w.alloc (.cells #[.pointer (some ⟨E.a, 0, none⟩), .int .i64 E.cf.levels, .int .i64 E.cf.bits, .int .i64 (E.cf.over s), .func (.func 56) #[] #[.pointer (some ⟨b, 0, none⟩), .pointer (some ⟨b + 1, 0, none⟩)], .func (.func 58) #[] #[.pointer (some ⟨b, 0, none⟩), .pointer (some ⟨b + 1, 0, none⟩)], .func (.func 52) #[.pointer (some ⟨E.p, 0, none⟩)] #[]] 67)).cell? ⟨w.heap.size, 0, none⟩ = some (.pointer (some ⟨E.a, 0, none⟩)) := by go_simp
  have q1 : (w.alloc (.cells #[.pointer (some ⟨E.a, 0, none⟩), .int .i64 E.cf.levels, .int .i64 E.cf.bits, .int .i64 (E.cf.over s), .func (.func 56) #[] #[.pointer (some ⟨b, 0, none⟩), .pointer (some ⟨b + 1, 0, none⟩)], .func (.func 58) #[] #[.pointer (some ⟨b, 0, none⟩), .pointer (some ⟨b + 1, 0, none⟩)], .func (.func 52) #[.pointer (some ⟨E.p, 0, none⟩)] #[]] 67)).cell? ⟨w.heap.size, 1, none⟩ = some (.int .i64 E.cf.levels) := by go_simp
  have q2 : (w.alloc (.cells #[.pointer (some ⟨E.a, 0, none⟩), .int .i64 E.cf.levels, .int .i64 E.cf.bits, .int .i64 (E.cf.over s), .func (.func 56) #[] #[.pointer (some ⟨b, 0, none⟩), .pointer (some ⟨b + 1, 0, none⟩)], .func (.func 58) #[] #[.pointer (some ⟨b, 0, none⟩), .pointer (some ⟨b + 1, 0, none⟩)], .func (.func 52) #[.pointer (some ⟨E.p, 0, none⟩)] #[]] 67)).cell? ⟨w.heap.size, 2, none⟩ = some (.int .i64 E.cf.bits) := by go_simp
  have q3 : (w.alloc (.cells #[.pointer (some ⟨E.a, 0, none⟩), .int .i64 E.cf.levels, .int .i64 E.cf.bits, .int .i64 (E.cf.over s), .func (.func 56) #[] #[.pointer (some ⟨b, 0, none⟩), .pointer (some ⟨b + 1, 0, none⟩)], .func (.func 58) #[] #[.pointer (some ⟨b, 0, none⟩), .pointer (some ⟨b + 1, 0, none⟩)], .func (.func 52) #[.pointer (some ⟨E.p, 0, none⟩)] #[]] 67)).cell? ⟨w.heap.size, 3, none⟩ = some (.int .i64 (E.cf.over s)) := by go_simp
  have q4 : (w.alloc (.cells #[.pointer (some ⟨E.a, 0, none⟩), .int .i64 E.cf.levels, .int .i64 E.cf.bits, .int .i64 (E.cf.over s), .func (.func 56) #[] #[.pointer (some ⟨b, 0, none⟩), .pointer (some ⟨b + 1, 0, none⟩)], .func (.func 58) #[] #[.pointer (some ⟨b, 0, none⟩), .pointer (some ⟨b + 1, 0, none⟩)], .func (.func 52) #[.pointer (some ⟨E.p, 0, none⟩)] #[]] 67)).cell? ⟨w.heap.size, 4, none⟩ = some (.func (.func 56) #[] #[.pointer (some ⟨b, 0, none⟩), .pointer (some ⟨b + 1, 0, none⟩)]) := by go_simp
  have q5 : (w.alloc (.cells #[.pointer (some ⟨E.a, 0, none⟩), .int .i64 E.cf.levels, .int .i64 E.cf.bits, .int .i64 (E.cf.over s), .func (.func 56) #[] #[.pointer (some ⟨b, 0, none⟩), .pointer (some ⟨b + 1, 0, none⟩)], .func (.func 58) #[] #[.pointer (some ⟨b, 0, none⟩), .pointer (some ⟨b + 1, 0, none⟩)], .func (.func 52) #[.pointer (some ⟨E.p, 0, none⟩)] #[]] 67)).cell? ⟨w.heap.size, 5, none⟩ = some (.func (.func 58) #[] #[.pointer (some ⟨b, 0, none⟩), .pointer (some ⟨b + 1, 0, none⟩)]) := by go_simp
  have q6 : (w.alloc (.cells #[.pointer (some ⟨E.a, 0, none⟩), .int .i64 E.cf.levels, .int .i64 E.cf.bits, .int .i64 (E.cf.over s), .func (.func 56) #[] #[.pointer (some ⟨b, 0, none⟩), .pointer (some ⟨b + 1, 0, none⟩)], .func (.func 58) #[] #[.pointer (some ⟨b, 0, none⟩), .pointer (some ⟨b + 1, 0, none⟩)], .func (.func 52) #[.pointer (some ⟨E.p, 0, none⟩)] #[]] 67)).cell? ⟨w.heap.size, 6, none⟩ = some (.func (.func 52) #[.pointer (some ⟨E.p, 0, none⟩)] #[]) := by go_simp
  have HA := Go.Lib.hid (arena_all (hg.below hal).ar)
  have hS1 : IntKind.i64.wrap (2 ^ E.cf.bits) = (E.cf.slots : Int) := by
    have d0 : ((E.cf.slots : Nat) : Int) = 2 ^ E.cf.bits := by unfold Cf.slots; push_cast; rfl
    rw [← d0]; exact IntWalk.i64_in _ (by omega)
  have HEACH : Hid (∀ (W : World) (ta ab to : Nat), Below w.heap.size w W → W.cell? ⟨ta, 0, none⟩ = some (.slice (some ⟨ab, 0, none⟩) S.n S.n) → (∀ k, k < S.n → W.cell? ⟨ab, k, none⟩ = some (.int .u64 (S.m k : Nat))) →
      W.cell? ⟨w.heap.size, 0, none⟩ = some (.pointer (some ⟨E.a, 0, none⟩)) →
      W.cell? ⟨w.heap.size, 1, none⟩ = some (.int .i64 E.cf.levels) →
      W.cell? ⟨w.heap.size, 2, none⟩ = some (.int .i64 E.cf.bits) →
      W.cell? ⟨w.heap.size, 3, none⟩ = some (.int .i64 (E.cf.over s)) →
      W.cell? ⟨w.heap.size, 4, none⟩ = some (.func (.func 56) #[] #[.pointer (some ⟨b, 0, none⟩), .pointer (some ⟨b + 1, 0, none⟩)]) →
      W.cell? ⟨w.heap.size, 5, none⟩ = some (.func (.func 58) #[] #[.pointer (some ⟨b, 0, none⟩), .pointer (some ⟨b + 1, 0, none⟩)]) →
      W.cell? ⟨w.heap.size, 6, none⟩ = some (.func (.func 52) #[.pointer (some ⟨E.p, 0, none⟩)] #[]) →
      ∀ (level i : Int) (k : Nat), listIx E.cf s level i = (k : Int) → 3 ≤ k → k < E.cf.nodesAt →
      Calls Try.prog 60 #[.int .i64 level, .int .i64 i, .pointer (some ⟨ta, 0, none⟩), .pointer (some ⟨w.heap.size, 0, none⟩), .pointer (some ⟨to, 0, none⟩)] W fun e w' => e = .returned (.tuple #[]) ∧ Below W.heap.size W w') := by
    intro W ta ab to hW hta hall q0 q1 q2 q3 q4 q5 q6 level i k hk h3 hkn
    exact wheel_each (hg.below hW) s level i b ab S.n ta w.heap.size to (below_cell hW h0) (below_cell hW h1) hta q0 q1 q2 q3 q4 q5 q6 k hk (by omega) (by rw [hall k (by omega), hz k h3 hkn]; rfl)
  have HOV := Go.Lib.hid (over_at hs)
  have HSL : Hid (∀ level i : Nat, level < E.cf.levels → i < E.cf.slots → ∃ k : Nat, E.cf.slot s level i = (k : Int) ∧ 3 ≤ k ∧ k < E.cf.nodesAt) := fun level i hl hi => slot_at hs hl hi
  have HAL := Go.Lib.hid hal
  have hf2 : ∀ (args : Array Value) (w : World), (callFunc 60 args).run Try.prog w = .ok (.enter 60 args) w := enters_each
  clear hg h0 h1 hz hal hok
  unfold wheelVal linkVal
  go_enter Try.func32, Try.ntmps32
  go_wp2_with fail
  generalize (w.alloc (.cells #[.pointer (some ⟨E.a, 0, none⟩), .int .i64 E.cf.levels, .int .i64 E.cf.bits, .int .i64 (E.cf.over s), .func (.func 56) #[] #[.pointer (some ⟨b, 0, none⟩), .pointer (some ⟨b + 1, 0, none⟩)], .func (.func 58) #[] #[.pointer (some ⟨b, 0, none⟩), .pointer (some ⟨b + 1, 0, none⟩)], .func (.func 52) #[.pointer (some ⟨E.p, 0, none⟩)] #[]] 67)) = w1 at *
  refine HA.out.mono ?_
  rintro e w2 ⟨rfl, hall⟩
  have hb2 := hall.bl
  replace q0 := below_cell hb2 q0
  replace q1 := below_cell hb2 q1
  replace q2 := below_cell hb2 q2
  replace q3 := below_cell hb2 q3
  replace q4 := below_cell hb2 q4
  replace q5 := below_cell hb2 q5
  replace q6 := below_cell hb2 q6
  have hab : ∀ k, k < S.n → w2.cell? ⟨w1.heap.size, k, none⟩ = some (.int .u64 (S.m k : Nat)) := fun k hk => by have := hall.c0 k hk; rwa [if_pos hk] at this
  have hal2 : Below w2.heap.size w2 ((w2.alloc (.cells #[.slice (some ⟨w1.heap.size, 0, none⟩) S.n S.n] 98)).alloc (.cells #[.slice none 0 0] 64)) := ((Below.refl _ _).alloc (Nat.le_refl _) _).alloc (by simp) _
  have ta0 : ((w2.alloc (.cells #[.slice (some ⟨w1.heap.size, 0, none⟩) S.n S.n] 98)).alloc (.cells #[.slice none 0 0] 64)).cell? ⟨w2.heap.size, 0, none⟩ = some (.slice (some ⟨w1.heap.size, 0, none⟩) S.n S.n) := by go_simp
  have to0 : ((w2.alloc (.cells #[.slice (some ⟨w1.heap.size, 0, none⟩) S.n S.n] 98)).alloc (.cells #[.slice none 0 0] 64)).cell? ⟨w2.heap.size + 1, 0, none⟩ = some (.slice none 0 0) := by go_simp
  replace q0 := below_cell hal2 q0
  replace q1 := below_cell hal2 q1
  replace q2 := below_cell hal2 q2
  replace q3 := below_cell hal2 q3
  replace q4 := below_cell hal2 q4
  replace q5 := below_cell hal2 q5
  replace q6 := below_cell hal2 q6
  have hab5 : ∀ k, k < S.n → ((w2.alloc (.cells #[.slice (some ⟨w1.heap.size, 0, none⟩) S.n S.n] 98)).alloc (.cells #[.slice none 0 0] 64)).cell? ⟨w1.heap.size, k, none⟩ = some (.int .u64 (S.m k : Nat)) := fun k hk => below_cell hal2 (hab k hk)
  have hB5 := (HAL.out.trans (hb2.mono HAL.out.size)).trans (hal2.mono (HAL.out.trans (hb2.mono HAL.out.size)).size)
  have HB5 := Go.Lib.hid hB5
  have HE5 : Hid (∀ W, Below ((w2.alloc (.cells #[.slice (some ⟨w1.heap.size, 0, none⟩) S.n S.n] 98)).alloc (.cells #[.slice none 0 0] 64)).heap.size ((w2.alloc (.cells #[.slice (some ⟨w1.heap.size, 0, none⟩) S.n S.n] 98)).alloc (.cells #[.slice none 0 0] 64)) W → ∀ (level i : Int) (k : Nat), listIx E.cf s level i = (k : Int) → 3 ≤ k → k < E.cf.nodesAt →
      Calls Try.prog 60 #[.int .i64 level, .int .i64 i, .pointer (some ⟨w2.heap.size, 0, none⟩), .pointer (some ⟨w.heap.size, 0, none⟩), .pointer (some ⟨w2.heap.size + 1, 0, none⟩)] W fun e w' => e = .returned (.tuple #[]) ∧ Below W.heap.size W w') := fun W hW =>
    HEACH.out W w2.heap.size w1.heap.size (w2.heap.size + 1) (hB5.trans (hW.mono hB5.size)) (below_cell hW ta0) (fun k hk => below_cell hW (hab5 k hk)) (below_cell hW q0) (below_cell hW q1) (below_cell hW q2) (below_cell hW q3) (below_cell hW q4) (below_cell hW q5) (below_cell hW q6)
  clear hall hb2 hab hal2 hab5 HA HAL hB5 HEACH
  go_wp2
  generalize ((w2.alloc (.cells #[.slice (some ⟨w1.heap.size, 0, none⟩) S.n S.n] 98)).alloc (.cells #[.slice none 0 0] 64)) = w5 at *
  generalize w2.heap.size + 1 = tob at *
  generalize w2.heap.size = tab at *
  go_loopw [14] (fun c wr => ∃ j : Nat, c = .int .i64 j ∧ j ≤ E.cf.levels ∧ Below w5.heap.size w5 wr) (fun c _ => E.cf.levels - (intOf c).toNat)
  case atStart => exact ⟨0, rfl, Nat.zero_le _, Below.refl _ _⟩
  case round =>
    obtain ⟨j, rfl, hj, hbj⟩ := hrel
    replace q2 := below_cell hbj q2
    replace q1 := below_cell hbj q1
    replace to0 := below_cell hbj to0
    have HBJ := Go.Lib.hid hbj
    by_cases hjl : j < E.cf.levels
    · have hd : decide ((j : Int) < (E.cf.levels : Int)) = true := by simp; omega
      clear hbj
      go_wp2
      go_loopw [20] (fun c wr2 => ∃ i : Nat, c = .int .i64 i ∧ i ≤ E.cf.slots ∧ Below w5.heap.size w5 wr2) (fun c _ => E.cf.slots - (intOf c).toNat)
      case atStart => exact ⟨0, rfl, Nat.zero_le _, HBJ.out⟩
      case round =>
        obtain ⟨i, rfl, hi, hbi⟩ := hrel
        have HBI := Go.Lib.hid hbi
        clear hd
        by_cases hil : i < E.cf.slots
        · have hd2 : decide ((i : Int) < (E.cf.slots : Int)) = true := by simp; omega
          obtain ⟨k, hk, h3, hkn⟩ := HSL.out j i hjl hil
          have hc := HE5.out _ hbi j i k (by unfold listIx; rw [if_neg (by omega)]; exact hk) h3 hkn
          have HC := Go.Lib.hid hc
          clear hc hk h3 hkn hbi
          go_wp2_with fail
          refine HC.out.mono ?_
          rintro e w8 ⟨rfl, hb8⟩
          have HB8 := Go.Lib.hid (HBI.out.trans (hb8.mono HBI.out.size))
          clear hb8
          go_wp2
          refine ⟨⟨i + 1, by first | rfl | simp, by omega, HB8.out⟩, by simp [intOf]; omega⟩
        · obtain rfl : i = E.cf.slots := by omega
          have hd2 : decide ((E.cf.slots : Int) < (E.cf.slots : Int)) = false := by simp
          clear hbi
          go_wp2
          refine ⟨⟨j + 1, by first | rfl | simp, by omega, HBI.out⟩, by simp [intOf]; omega⟩
    · obtain hje : j = E.cf.levels := by omega
      have hd : decide ((j : Int) < (E.cf.levels : Int)) = false := by simp; omega
      obtain ⟨k, hk, h3, hkn⟩ := HOV.out
      have hc := HE5.out _ hbj (E.cf.levels : Int) 0 k (by unfold listIx; rw [if_pos (Int.le_refl _)]; exact hk) h3 hkn
      have HC := Go.Lib.hid hc
      clear hc hk h3 hkn hbj hje
      go_wp2_with fail
      refine HC.out.mono ?_
      rintro e w8 ⟨rfl, hb8⟩
      replace to0 := below_cell hb8 to0
      have HB8 := Go.Lib.hid (HBJ.out.trans (hb8.mono HBJ.out.size))
      clear hb8
      go_wp2
      go_ret
      exact ⟨rfl, HB5.out.trans (HB8.out.mono HB5.out.size)⟩
set_option maxHeartbeats 2000000 in
theorem box_list0 {E : G} {L : Lab} {S : St} {w : World} (hg : Good E L S w) (s : Nat) (k : Nat) (hk : E.cf.inbox s = (k : Int)) (hkn : k < S.n) (hz : S.m k = 0) :
    Calls Try.prog 30 #[boxVal E s] w fun e w' => (∃ a cap, e = .returned (.slice a 0 cap)) ∧ Below w.heap.size w w' := by
  have HL : Hid (∀ W, Below w.heap.size w W → Calls Try.prog 26 #[.agg #[.pointer (some ⟨E.a, 0, none⟩), .int .i64 k, .func (.func 52) #[.pointer (some ⟨E.p, 0, none⟩)] #[]]] W fun e w' => ∃ v, e = .returned v ∧
      w'.ownsRow W.heap.size 3 1 v 0 [] ∧ Below W.heap.size W w') := fun W hW =>
    stack_list (hg.below hW) 52 (fun _ _ => by kernel_rfl) k hkn (fun _ => 0) [] (fun x hx => absurd hx (by simp)) (by rw [hz]; exact ⟨by decide, by decide⟩) (Nat.zero_le _)
  have hal : ∀ o, Below w.heap.size w (w.alloc o) := fun o => (Below.refl _ _).alloc (Nat.le_refl _) _
  have HAL := Go.Lib.hid hal
  unfold boxVal linkVal
  rw [hk]
  clear hg hz hk hal
  go_enter Try.func30, Try.ntmps30
  go_wp2_with fail
  refine (HL.out _ (HAL.out _)).mono ?_
  rintro e w2 ⟨v, rfl, hown, hb2⟩
  obtain ⟨a, cap, rfl⟩ := own_form hown
  have HB2 := Go.Lib.hid ((HAL.out _).trans (hb2.mono (HAL.out _).size))
  clear hown hb2
  go_wp2
  go_ret
  exact ⟨⟨a, cap, rfl⟩, HB2.out⟩
end Go.Proofs.Ytlbjjooiiikmjaa

