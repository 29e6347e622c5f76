/- The plan: which cell is what. -/
import Derived.Test.YtlbjjooiiikmjaaA
namespace Go.Proofs.Ytlbjjooiiikmjaa
open Go.RowKit
set_option maxRecDepth 100000
set_option linter.unusedVariables false

def among (base i many apart : Int) : Int := if i < 0 ∨ many ≤ i then -1 else base + i * apart
def within (base far : Int) : Int := if base < 0 ∨ far < 0 then -1 else base + far

namespace Cf
def at_ (c : Cf) (s : Int) : Int := among 3 s c.workers c.shard
def inbox (c : Cf) (s : Int) : Int := c.at_ s
def cur (c : Cf) (s : Int) : Int := within (c.at_ s) 1
def over (c : Cf) (s : Int) : Int := within (c.at_ s) 2
def map (c : Cf) (s level : Int) : Int := within (c.at_ s) (among 3 level c.levels (1 + c.slots))
def slot (c : Cf) (s level i : Int) : Int := within (c.map s level) (among 1 i c.slots 1)
def node (c : Cf) (n i : Int) : Int := within (among c.nodesAt n c.nodes 4) i
def ticket (c : Cf) (t i : Int) : Int := within (among c.ticketsAt t c.tickets 3) i
def conn (c : Cf) (x : Int) : Int := among c.connsAt x c.conns 1
def state (c : Cf) (n : Int) : Int := c.node n 0
def home (c : Cf) (n : Int) : Int := c.node n 1
def user (c : Cf) (n : Int) : Int := c.node n 2
def nodeLink (c : Cf) (n : Int) : Int := c.node n 3
def key (c : Cf) (t : Int) : Int := c.ticket t 0
def time (c : Cf) (t : Int) : Int := c.ticket t 1
def ticketLink (c : Cf) (t : Int) : Int := c.ticket t 2
end Cf

theorem among_yes {base i many apart : Int} (h : 0 ≤ i ∧ i < many) : among base i many apart = base + i * apart := by unfold among; rw [if_neg (by omega)]
theorem among_no {base i many apart : Int} (h : ¬ (0 ≤ i ∧ i < many)) : among base i many apart = -1 := by unfold among; rw [if_pos (by omega)]
/-- The bounds of a row's places. -/
theorem mul_bd {i many apart M : Int} (h0 : 0 ≤ i) (h1 : i < many) (ha : 0 ≤ apart) (hM : many * apart ≤ M) : 0 ≤ i * apart ∧ i * apart + apart ≤ M := by
  have h2 : i * apart + apart = (i + 1) * apart := by rw [Int.add_mul, Int.one_mul]
  have h3 : (i + 1) * apart ≤ many * apart := Int.mul_le_mul_of_nonneg_right (by omega) ha
  have h4 : 0 ≤ i * apart := Int.mul_nonneg h0 ha
  omega
theorem among_bd {base i many apart M : Int} (hb : 0 ≤ base) (ha : 0 ≤ apart) (hM : many * apart ≤ M) (h0 : 0 ≤ M) : -1 ≤ among base i many apart ∧ among base i many apart ≤ base + M := by
  by_cases h : 0 ≤ i ∧ i < many
  · rw [among_yes h]
    have := mul_bd h.1 h.2 ha hM
    omega
  · rw [among_no h]; omega
theorem within_bd {base far B F : Int} (hb : base ≤ B) (hf : far ≤ F) (h0 : 0 ≤ B) (h1 : 0 ≤ F) : -1 ≤ within base far ∧ within base far ≤ B + F := by
  unfold within
  split <;> omega

set_option maxHeartbeats 400000 in
theorem among_any (base i many apart M : Int) (w : World) (hb : 0 ≤ base) (hb2 : base ≤ 1000000) (ha : 0 ≤ apart) (hm : many * apart ≤ M) (hM : M ≤ 1000000) :
    Calls Try.prog 89 #[.int .i64 base, .int .i64 i, .int .i64 many, .int .i64 apart] w fun e w' => e = .returned (.int .i64 (among base i many apart)) ∧ w' = w := by
  by_cases h : 0 ≤ i ∧ i < many
  · rw [among_yes h]
    obtain ⟨h1, h2⟩ := h
    have h3 := mul_bd h1 h2 ha hm
    generalize hx : i * apart = x at h3 ⊢
    have e1 : IntKind.i64.wrap (i * apart) = x := by rw [hx]; exact IntWalk.i64_in _ (by omega)
    have e2 : IntKind.i64.wrap (base + x) = base + x := IntWalk.i64_in _ (by omega)
    obtain ⟨h4, h5⟩ := h3
    clear hm hx
    go_enter Try.func89, Try.ntmps89
    go_wp2
    go_ret
    exact ⟨rfl, rfl⟩
  · rw [among_no h]
    by_cases h1 : i < 0
    · clear hm
      go_enter Try.func89, Try.ntmps89
      go_wp2
      go_ret
      exact ⟨rfl, rfl⟩
    · have h2 : many ≤ i := by omega
      clear hm
      go_enter Try.func89, Try.ntmps89
      go_wp2
      go_ret
      exact ⟨rfl, rfl⟩

set_option maxHeartbeats 400000 in
theorem within_any (base far : Int) (w : World) (hb : base ≤ 10000000) (hf : far ≤ 10000000) :
    Calls Try.prog 88 #[.int .i64 base, .int .i64 far] w fun e w' => e = .returned (.int .i64 (within base far)) ∧ w' = w := by
  unfold within
  by_cases h : base < 0
  · rw [if_pos (.inl h)]
    go_enter Try.func88, Try.ntmps88
    go_wp2
    go_ret
    exact ⟨rfl, rfl⟩
  · by_cases h2 : far < 0
    · rw [if_pos (.inr h2)]
      go_enter Try.func88, Try.ntmps88
      go_wp2
      go_ret
      exact ⟨rfl, rfl⟩
    · rw [if_neg (by omega)]
      go_enter Try.func88, Try.ntmps88
      go_wp2
      go_ret
      exact ⟨rfl, rfl⟩
set_option maxHeartbeats 400000 in
theorem plan_Clock (p : Nat) (w : World) :
    Calls Try.prog 11 #[.pointer (some ⟨p, 0, none⟩)] w fun e w' => e = .returned (.int .i64 0) ∧ w' = w := by
  go_enter Try.func11, Try.ntmps11
  go_wp2
  go_ret
  exact ⟨rfl, rfl⟩

set_option maxHeartbeats 400000 in
theorem plan_Nodes (p : Nat) (w : World) :
    Calls Try.prog 47 #[.pointer (some ⟨p, 0, none⟩)] w fun e w' => e = .returned (.int .i64 1) ∧ w' = w := by
  go_enter Try.func47, Try.ntmps47
  go_wp2
  go_ret
  exact ⟨rfl, rfl⟩

set_option maxHeartbeats 400000 in
theorem plan_Tickets (p : Nat) (w : World) :
    Calls Try.prog 51 #[.pointer (some ⟨p, 0, none⟩)] w fun e w' => e = .returned (.int .i64 2) ∧ w' = w := by
  go_enter Try.func51, Try.ntmps51
  go_wp2
  go_ret
  exact ⟨rfl, rfl⟩

set_option maxHeartbeats 400000 in
theorem plan_at {c : Cf} (hok : c.Ok) (p : Nat) (s : Int) (w : World) (h : PlanAt w p c) :
    Calls Try.prog 82 #[.pointer (some ⟨p, 0, none⟩), .int .i64 s] w (Qt (.int .i64 (c.at_ s)) w) := by
  have hn := hok.nodesAt_le
  have ht := hok.ticketsAt_le
  have hx := hok.connsAt_le
  have hs := hok.shard_le
  have hsl := hok.slots_le
  have n2 := hok.n2
  have t2 := hok.t2
  have c2 := hok.c2
  have w2 := hok.w2
  have l2 := hok.l2
  have hW := hok.hW
  have hL := hok.hL
  obtain ⟨c0, c1, c2', c3, c4, c5, c6, c7, c8, c9, c10, c11, c12, c13, c14, c15, c16, c17⟩ := h
  clear c5 c6 c8 c9 c10 c11 c12 c2'
  have HW := Go.Lib.hid hW; clear hW
  have HL := Go.Lib.hid hL; clear hL
  go_enter Try.func82, Try.ntmps82
  try go_wp2_with fail
  go_quiet (first
    | (go_at_call 89; refine Calls.quiet_of_same (among_any 3 s c.workers c.shard 33472 _ (by omega) (by omega) (by omega) HW.out (by omega))))
  go_wp2
  go_ret
  exact ⟨rfl, _, rfl⟩

set_option maxHeartbeats 400000 in
theorem plan_Inbox {c : Cf} (hok : c.Ok) (p : Nat) (s : Int) (w : World) (h : PlanAt w p c) :
    Calls Try.prog 53 #[.pointer (some ⟨p, 0, none⟩), .int .i64 s] w (Qt (.int .i64 (c.inbox s)) w) := by
  have hn := hok.nodesAt_le
  have ht := hok.ticketsAt_le
  have hx := hok.connsAt_le
  have hs := hok.shard_le
  have hsl := hok.slots_le
  have n2 := hok.n2
  have t2 := hok.t2
  have c2 := hok.c2
  have w2 := hok.w2
  have l2 := hok.l2
  have hW := hok.hW
  have hL := hok.hL
  have hp : ∀ q, PlanAt (w.drewN q) p c := fun q => h.mono rfl
  obtain ⟨c0, c1, c2', c3, c4, c5, c6, c7, c8, c9, c10, c11, c12, c13, c14, c15, c16, c17⟩ := h
  clear c5 c6 c8 c9 c10 c11 c12 c2'
  have HW := Go.Lib.hid hW; clear hW
  have HL := Go.Lib.hid hL; clear hL
  go_enter Try.func53, Try.ntmps53
  go_wp2_with fail
  refine (plan_at hok p s _ (hp 0)).mono ?_
  rintro e w' ⟨rfl, _, rfl⟩
  go_wp2
  go_ret
  exact ⟨rfl, _, rfl⟩


set_option maxHeartbeats 400000 in
theorem plan_Over {c : Cf} (hok : c.Ok) (p : Nat) (s : Int) (w : World) (h : PlanAt w p c) :
    Calls Try.prog 55 #[.pointer (some ⟨p, 0, none⟩), .int .i64 s] w (Qt (.int .i64 (c.over s)) w) := by
  have hn := hok.nodesAt_le
  have ht := hok.ticketsAt_le
  have hx := hok.connsAt_le
  have hs := hok.shard_le
  have hsl := hok.slots_le
  have n2 := hok.n2
  have t2 := hok.t2
  have c2 := hok.c2
  have w2 := hok.w2
  have l2 := hok.l2
  have hW := hok.hW
  have hL := hok.hL
  have ab : -1 ≤ c.at_ s ∧ c.at_ s ≤ 33475 := by
    unfold Cf.at_; have := among_bd (base := 3) (i := s) (by omega) (by omega : (0 : Int) ≤ c.shard) hW (by omega); omega
  have hp : ∀ q, PlanAt (w.drewN q) p c := fun q => h.mono rfl
  obtain ⟨c0, c1, c2', c3, c4, c5, c6, c7, c8, c9, c10, c11, c12, c13, c14, c15, c16, c17⟩ := h
  clear c5 c6 c8 c9 c10 c11 c12 c2'
  have HW := Go.Lib.hid hW; clear hW
  have HL := Go.Lib.hid hL; clear hL
  go_enter Try.func55, Try.ntmps55
  go_wp2_with fail
  refine (plan_at hok p s _ (hp 0)).mono ?_
  rintro e w' ⟨rfl, _, rfl⟩
  go_wp2_with fail
  refine (within_any (c.at_ s) 2 _ (by omega) (by omega)).mono ?_
  rintro e w' ⟨rfl, rfl⟩
  go_wp2
  go_ret
  exact ⟨rfl, _, rfl⟩

set_option maxHeartbeats 400000 in
theorem plan_Map {c : Cf} (hok : c.Ok) (p : Nat) (s level : Int) (w : World) (h : PlanAt w p c) :
    Calls Try.prog 57 #[.pointer (some ⟨p, 0, none⟩), .int .i64 s, .int .i64 level] w (Qt (.int .i64 (c.map s level)) w) := by
  have hn := hok.nodesAt_le
  have ht := hok.ticketsAt_le
  have hx := hok.connsAt_le
  have hs := hok.shard_le
  have hsl := hok.slots_le
  have n2 := hok.n2
  have t2 := hok.t2
  have c2 := hok.c2
  have w2 := hok.w2
  have l2 := hok.l2
  have hW := hok.hW
  have hL := hok.hL
  have ab : -1 ≤ c.at_ s ∧ c.at_ s ≤ 33475 := by
    unfold Cf.at_; have := among_bd (base := 3) (i := s) (by omega) (by omega : (0 : Int) ≤ c.shard) hW (by omega); omega
  have hp : ∀ q, PlanAt (w.drewN q) p c := fun q => h.mono rfl
  have lb := among_bd (base := 3) (i := level) (by omega) (by omega : (0 : Int) ≤ 1 + c.slots) hL (by omega)
  obtain ⟨c0, c1, c2', c3, c4, c5, c6, c7, c8, c9, c10, c11, c12, c13, c14, c15, c16, c17⟩ := h
  clear c5 c6 c8 c9 c10 c11 c12 c2'
  have HW := Go.Lib.hid hW; clear hW
  have HL := Go.Lib.hid hL; clear hL
  go_enter Try.func57, Try.ntmps57
  try go_wp2_with fail
  go_quiet (first
    | (go_at_call 82; refine Calls.quiet_of (plan_at hok p s _ (hp _)))
    | (go_at_call 89; refine Calls.quiet_of_same (among_any 3 level c.levels (1 + c.slots) 520 _ (by omega) (by omega) (by omega) HL.out (by omega)))
    | (go_at_call 88; refine Calls.quiet_of_same (within_any (c.at_ s) (among 3 level c.levels (1 + c.slots)) _ (by omega) (by omega))))
  go_wp2
  go_ret
  exact ⟨rfl, _, rfl⟩

set_option maxHeartbeats 400000 in
theorem plan_Slot {c : Cf} (hok : c.Ok) (p : Nat) (s level i : Int) (w : World) (h : PlanAt w p c) :
    Calls Try.prog 59 #[.pointer (some ⟨p, 0, none⟩), .int .i64 s, .int .i64 level, .int .i64 i] w (Qt (.int .i64 (c.slot s level i)) w) := by
  have hn := hok.nodesAt_le
  have ht := hok.ticketsAt_le
  have hx := hok.connsAt_le
  have hs := hok.shard_le
  have hsl := hok.slots_le
  have n2 := hok.n2
  have t2 := hok.t2
  have c2 := hok.c2
  have w2 := hok.w2
  have l2 := hok.l2
  have hW := hok.hW
  have hL := hok.hL
  have ab : -1 ≤ c.at_ s ∧ c.at_ s ≤ 33475 := by
    unfold Cf.at_; have := among_bd (base := 3) (i := s) (by omega) (by omega : (0 : Int) ≤ c.shard) hW (by omega); omega
  have hp : ∀ q, PlanAt (w.drewN q) p c := fun q => h.mono rfl
  have lb := among_bd (base := 3) (i := level) (by omega) (by omega : (0 : Int) ≤ 1 + c.slots) hL (by omega)
  have mb : -1 ≤ c.map s level ∧ c.map s level ≤ 33998 := by
    unfold Cf.map; have := within_bd (base := c.at_ s) (far := among 3 level c.levels (1 + c.slots)) (B := 33475) (F := 523) (by omega) (by omega) (by omega) (by omega); omega
  have sb := among_bd (base := 1) (i := i) (many := c.slots) (apart := 1) (M := 64) (by omega) (by omega) (by omega) (by omega)
  obtain ⟨c0, c1, c2', c3, c4, c5, c6, c7, c8, c9, c10, c11, c12, c13, c14, c15, c16, c17⟩ := h
  clear c5 c6 c8 c9 c10 c11 c12 c2'
  have HW := Go.Lib.hid hW; clear hW
  have HL := Go.Lib.hid hL; clear hL
  go_enter Try.func59, Try.ntmps59
  try go_wp2_with fail
  go_quiet (first
    | (go_at_call 57; refine Calls.quiet_of (plan_Map hok p s level _ (hp _)))
    | (go_at_call 89; refine Calls.quiet_of_same (among_any 1 i c.slots 1 64 _ (by omega) (by omega) (by omega) (by omega) (by omega)))
    | (go_at_call 88; refine Calls.quiet_of_same (within_any (c.map s level) (among 1 i c.slots 1) _ (by omega) (by omega))))
  go_wp2
  go_ret
  exact ⟨rfl, _, rfl⟩

set_option maxHeartbeats 400000 in
theorem plan_node {c : Cf} (hok : c.Ok) (p : Nat) (n i : Int) (w : World) (h : PlanAt w p c) (hi : i ≤ 10) :
    Calls Try.prog 78 #[.pointer (some ⟨p, 0, none⟩), .int .i64 n, .int .i64 i] w (Qt (.int .i64 (c.node n i)) w) := by
  have hn := hok.nodesAt_le
  have ht := hok.ticketsAt_le
  have hx := hok.connsAt_le
  have hs := hok.shard_le
  have hsl := hok.slots_le
  have n2 := hok.n2
  have t2 := hok.t2
  have c2 := hok.c2
  have w2 := hok.w2
  have l2 := hok.l2
  have hW := hok.hW
  have hL := hok.hL
  have nb := among_bd (base := c.nodesAt) (i := n) (many := c.nodes) (apart := 4) (M := 16384) (by omega) (by omega) (by omega) (by omega)
  have hp : ∀ q, PlanAt (w.drewN q) p c := fun q => h.mono rfl
  obtain ⟨c0, c1, c2', c3, c4, c5, c6, c7, c8, c9, c10, c11, c12, c13, c14, c15, c16, c17⟩ := h
  clear c5 c6 c8 c9 c10 c11 c12 c2'
  have HW := Go.Lib.hid hW; clear hW
  have HL := Go.Lib.hid hL; clear hL
  go_enter Try.func78, Try.ntmps78
  try go_wp2_with fail
  go_quiet (first
    | (go_at_call 89; refine Calls.quiet_of_same (among_any c.nodesAt n c.nodes 4 16384 _ (by omega) (by omega) (by omega) (by omega) (by omega)))
    | (go_at_call 88; refine Calls.quiet_of_same (within_any (among c.nodesAt n c.nodes 4) i _ (by omega) (by omega))))
  go_wp2
  go_ret
  exact ⟨rfl, _, rfl⟩

set_option maxHeartbeats 400000 in
theorem plan_ticket {c : Cf} (hok : c.Ok) (p : Nat) (t i : Int) (w : World) (h : PlanAt w p c) (hi : i ≤ 10) :
    Calls Try.prog 81 #[.pointer (some ⟨p, 0, none⟩), .int .i64 t, .int .i64 i] w (Qt (.int .i64 (c.ticket t i)) w) := by
  have hn := hok.nodesAt_le
  have ht := hok.ticketsAt_le
  have hx := hok.connsAt_le
  have hs := hok.shard_le
  have hsl := hok.slots_le
  have n2 := hok.n2
  have t2 := hok.t2
  have c2 := hok.c2
  have w2 := hok.w2
  have l2 := hok.l2
  have hW := hok.hW
  have hL := hok.hL
  have tb := among_bd (base := c.ticketsAt) (i := t) (many := c.tickets) (apart := 3) (M := 24576) (by omega) (by omega) (by omega) (by omega)
  have hp : ∀ q, PlanAt (w.drewN q) p c := fun q => h.mono rfl
  obtain ⟨c0, c1, c2', c3, c4, c5, c6, c7, c8, c9, c10, c11, c12, c13, c14, c15, c16, c17⟩ := h
  clear c5 c6 c8 c9 c10 c11 c12 c2'
  have HW := Go.Lib.hid hW; clear hW
  have HL := Go.Lib.hid hL; clear hL
  go_enter Try.func81, Try.ntmps81
  try go_wp2_with fail
  go_quiet (first
    | (go_at_call 89; refine Calls.quiet_of_same (among_any c.ticketsAt t c.tickets 3 24576 _ (by omega) (by omega) (by omega) (by omega) (by omega)))
    | (go_at_call 88; refine Calls.quiet_of_same (within_any (among c.ticketsAt t c.tickets 3) i _ (by omega) (by omega))))
  go_wp2
  go_ret
  exact ⟨rfl, _, rfl⟩

set_option maxHeartbeats 400000 in
theorem plan_State {c : Cf} (hok : c.Ok) (p : Nat) (n : Int) (w : World) (h : PlanAt w p c) :
    Calls Try.prog 63 #[.pointer (some ⟨p, 0, none⟩), .int .i64 n] w (Qt (.int .i64 (c.state n)) w) := by
  have hn := hok.nodesAt_le
  have ht := hok.ticketsAt_le
  have hx := hok.connsAt_le
  have hs := hok.shard_le
  have hsl := hok.slots_le
  have n2 := hok.n2
  have t2 := hok.t2
  have c2 := hok.c2
  have w2 := hok.w2
  have l2 := hok.l2
  have hW := hok.hW
  have hL := hok.hL
  have hp : ∀ q, PlanAt (w.drewN q) p c := fun q => h.mono rfl
  obtain ⟨c0, c1, c2', c3, c4, c5, c6, c7, c8, c9, c10, c11, c12, c13, c14, c15, c16, c17⟩ := h
  clear c5 c6 c8 c9 c10 c11 c12 c2'
  have HW := Go.Lib.hid hW; clear hW
  have HL := Go.Lib.hid hL; clear hL
  go_enter Try.func63, Try.ntmps63
  go_wp2_with fail
  refine (plan_node hok p n 0 _ (hp 0) (by omega)).mono ?_
  rintro e w' ⟨rfl, _, rfl⟩
  go_wp2
  go_ret
  exact ⟨rfl, _, rfl⟩



set_option maxHeartbeats 400000 in
theorem plan_NodeLink {c : Cf} (hok : c.Ok) (p : Nat) (n : Int) (w : World) (h : PlanAt w p c) :
    Calls Try.prog 48 #[.pointer (some ⟨p, 0, none⟩), .int .i64 n] w (Qt (.int .i64 (c.nodeLink n)) w) := by
  have hn := hok.nodesAt_le
  have ht := hok.ticketsAt_le
  have hx := hok.connsAt_le
  have hs := hok.shard_le
  have hsl := hok.slots_le
  have n2 := hok.n2
  have t2 := hok.t2
  have c2 := hok.c2
  have w2 := hok.w2
  have l2 := hok.l2
  have hW := hok.hW
  have hL := hok.hL
  have hp : ∀ q, PlanAt (w.drewN q) p c := fun q => h.mono rfl
  obtain ⟨c0, c1, c2', c3, c4, c5, c6, c7, c8, c9, c10, c11, c12, c13, c14, c15, c16, c17⟩ := h
  clear c5 c6 c8 c9 c10 c11 c12 c2'
  have HW := Go.Lib.hid hW; clear hW
  have HL := Go.Lib.hid hL; clear hL
  go_enter Try.func48, Try.ntmps48
  go_wp2_with fail
  refine (plan_node hok p n 3 _ (hp 0) (by omega)).mono ?_
  rintro e w' ⟨rfl, _, rfl⟩
  go_wp2
  go_ret
  exact ⟨rfl, _, rfl⟩

set_option maxHeartbeats 400000 in
theorem plan_Key {c : Cf} (hok : c.Ok) (p : Nat) (t : Int) (w : World) (h : PlanAt w p c) :
    Calls Try.prog 84 #[.pointer (some ⟨p, 0, none⟩), .int .i64 t] w (Qt (.int .i64 (c.key t)) w) := by
  have hn := hok.nodesAt_le
  have ht := hok.ticketsAt_le
  have hx := hok.connsAt_le
  have hs := hok.shard_le
  have hsl := hok.slots_le
  have n2 := hok.n2
  have t2 := hok.t2
  have c2 := hok.c2
  have w2 := hok.w2
  have l2 := hok.l2
  have hW := hok.hW
  have hL := hok.hL
  have hp : ∀ q, PlanAt (w.drewN q) p c := fun q => h.mono rfl
  obtain ⟨c0, c1, c2', c3, c4, c5, c6, c7, c8, c9, c10, c11, c12, c13, c14, c15, c16, c17⟩ := h
  clear c5 c6 c8 c9 c10 c11 c12 c2'
  have HW := Go.Lib.hid hW; clear hW
  have HL := Go.Lib.hid hL; clear hL
  go_enter Try.func84, Try.ntmps84
  go_wp2_with fail
  refine (plan_ticket hok p t 0 _ (hp 0) (by omega)).mono ?_
  rintro e w' ⟨rfl, _, rfl⟩
  go_wp2
  go_ret
  exact ⟨rfl, _, rfl⟩


set_option maxHeartbeats 400000 in
theorem plan_TicketLink {c : Cf} (hok : c.Ok) (p : Nat) (t : Int) (w : World) (h : PlanAt w p c) :
    Calls Try.prog 52 #[.pointer (some ⟨p, 0, none⟩), .int .i64 t] w (Qt (.int .i64 (c.ticketLink t)) w) := by
  have hn := hok.nodesAt_le
  have ht := hok.ticketsAt_le
  have hx := hok.connsAt_le
  have hs := hok.shard_le
  have hsl := hok.slots_le
  have n2 := hok.n2
  have t2 := hok.t2
  have c2 := hok.c2
  have w2 := hok.w2
  have l2 := hok.l2
  have hW := hok.hW
  have hL := hok.hL
  have hp : ∀ q, PlanAt (w.drewN q) p c := fun q => h.mono rfl
  obtain ⟨c0, c1, c2', c3, c4, c5, c6, c7, c8, c9, c10, c11, c12, c13, c14, c15, c16, c17⟩ := h
  clear c5 c6 c8 c9 c10 c11 c12 c2'
  have HW := Go.Lib.hid hW; clear hW
  have HL := Go.Lib.hid hL; clear hL
  go_enter Try.func52, Try.ntmps52
  go_wp2_with fail
  refine (plan_ticket hok p t 2 _ (hp 0) (by omega)).mono ?_
  rintro e w' ⟨rfl, _, rfl⟩
  go_wp2
  go_ret
  exact ⟨rfl, _, rfl⟩

end Go.Proofs.Ytlbjjooiiikmjaa
