/- What there is at first, place by place. -/
import Derived.Test.YtlbjjooiiikmjaaH
namespace Go.Proofs.Ytlbjjooiiikmjaa
set_option maxRecDepth 100000
set_option linter.unusedVariables false

theorem stateM_off (c : Cf) (m : Nat → Nat) (j : Nat) : ∀ k, (∀ i, i < k → j ≠ c.nodesAt + 4 * i) → stateM c m k j = m j
  | 0, _ => rfl
  | k + 1, h => by
    show upd (stateM c m k) (c.nodesAt + 4 * k) (freshW c) j = m j
    unfold upd
    rw [if_neg (h k (Nat.lt_succ_self k)), stateM_off c m j k fun i hi => h i (Nat.lt_succ_of_lt hi)]
theorem stateM_on (c : Cf) (m : Nat → Nat) (i : Nat) : ∀ k, i < k → stateM c m k (c.nodesAt + 4 * i) = freshW c
  | 0, h => absurd h (Nat.not_lt_zero _)
  | k + 1, h => by
    show upd (stateM c m k) (c.nodesAt + 4 * k) (freshW c) (c.nodesAt + 4 * i) = freshW c
    unfold upd
    by_cases e : i = k
    · subst e; rw [if_pos rfl]
    · rw [if_neg (by omega), stateM_on c m i k (by omega)]
theorem chainM_off (g m : Nat → Nat) (j : Nat) : ∀ k, (∀ i, i < k → j ≠ g i) → chainM g m k j = m j
  | 0, _ => rfl
  | k + 1, h => by
    show upd (chainM g m k) (g k) (k + 2) j = m j
    unfold upd
    rw [if_neg (h k (Nat.lt_succ_self k)), chainM_off g m j k fun i hi => h i (Nat.lt_succ_of_lt hi)]
theorem chainM_on (g m : Nat → Nat) (i : Nat) (hg : ∀ a b, g a = g b → a = b) : ∀ k, i < k → chainM g m k (g i) = i + 2
  | 0, h => absurd h (Nat.not_lt_zero _)
  | k + 1, h => by
    show upd (chainM g m k) (g k) (k + 2) (g i) = i + 2
    unfold upd
    by_cases e : i = k
    · subst e; rw [if_pos rfl]
    · rw [if_neg (fun q => e (hg _ _ q)), chainM_on g m i hg k (by omega)]

theorem freshM_zero {c : Cf} (hok : c.Ok) : freshM c 0 = 0 := by
  have h1 := hok.nodesAt_le
  have h2 := hok.ticketsAt_le
  unfold freshM chains
  rw [stateM_off _ _ _ _ (fun i _ => by omega), chainM_off _ _ _ _ (fun i _ => by omega)]
  unfold upd
  rw [if_neg (by omega), chainM_off _ _ _ _ (fun i _ => by omega), if_neg (by omega)]
theorem freshM_one {c : Cf} (hok : c.Ok) : freshM c 1 = 1 := by
  have h1 := hok.nodesAt_le
  have h2 := hok.ticketsAt_le
  unfold freshM chains
  rw [stateM_off _ _ _ _ (fun i _ => by omega), chainM_off _ _ _ _ (fun i _ => by omega)]
  unfold upd
  rw [if_neg (by omega), chainM_off _ _ _ _ (fun i _ => by omega), if_pos rfl]
theorem freshM_two {c : Cf} (hok : c.Ok) : freshM c 2 = 1 := by
  have h1 := hok.nodesAt_le
  have h2 := hok.ticketsAt_le
  unfold freshM chains
  rw [stateM_off _ _ _ _ (fun i _ => by omega), chainM_off _ _ _ _ (fun i _ => by omega)]
  unfold upd
  rw [if_pos rfl]
/-- A shard's places. -/
theorem freshM_shard {c : Cf} (j : Nat) (h : 3 ≤ j) (h' : j < c.nodesAt) : freshM c j = 0 := by
  have h2 : c.nodesAt ≤ c.ticketsAt := by unfold Cf.ticketsAt; omega
  unfold freshM chains
  rw [stateM_off _ _ _ _ (fun i _ => by omega), chainM_off _ _ _ _ (fun i _ => by omega)]
  unfold upd
  rw [if_neg (by omega), chainM_off _ _ _ _ (fun i _ => by omega), if_neg (by omega)]
theorem freshM_state {c : Cf} (i : Nat) (h : i < c.nodes) : freshM c (c.nodesAt + 4 * i) = freshW c := stateM_on c _ i _ h
theorem freshM_nodeLink {c : Cf} (hok : c.Ok) (i : Nat) (h : i < c.nodes) : freshM c (c.nodesAt + 4 * i + 3) = if i + 1 < c.nodes then i + 2 else 0 := by
  have h1 := hok.nodesAt_le
  have h2 : c.ticketsAt = c.nodesAt + 4 * c.nodes := rfl
  unfold freshM chains
  rw [stateM_off _ _ _ _ (fun i' _ => by omega), chainM_off _ _ _ _ (fun i' _ => by omega)]
  unfold upd
  rw [if_neg (by omega)]
  by_cases e : i + 1 < c.nodes
  · rw [if_pos e]
    exact chainM_on (fun i => c.nodesAt + 4 * i + 3) _ i (fun a b h => by omega) _ (by omega)
  · rw [if_neg e, chainM_off _ _ _ _ (fun i' hi' => by omega), if_neg (by omega)]
theorem freshM_ticketLink {c : Cf} (hok : c.Ok) (i : Nat) (h : i < c.tickets) : freshM c (c.ticketsAt + 3 * i + 2) = if i + 1 < c.tickets then i + 2 else 0 := by
  have h1 := hok.nodesAt_le
  have h2 : c.ticketsAt = c.nodesAt + 4 * c.nodes := rfl
  unfold freshM chains
  rw [stateM_off _ _ _ _ (fun i' _ => by omega)]
  by_cases e : i + 1 < c.tickets
  · rw [if_pos e]
    exact chainM_on (fun i => c.ticketsAt + 3 * i + 2) _ i (fun a b h => by omega) _ (by omega)
  · rw [if_neg e, chainM_off _ _ _ _ (fun i' hi' => by omega)]
    unfold upd
    rw [if_neg (by omega), chainM_off _ _ _ _ (fun i' hi' => by omega), if_neg (by omega)]
/-- A chain through all numbers from k on. -/
theorem chain_all {S : St} {lk : Nat → Nat} {n : Nat} (hlt : ∀ i, i < n → lk i < S.n) (hm : ∀ i, i < n → S.m (lk i) = if i + 1 < n then i + 2 else 0) (hn : n ≤ 1000000) :
    ∀ d k, k + d = n → (0 < d ∨ k = 0) → ChainOf S lk (if 0 < d then (k : Int) else -1) (List.range' k d)
  | 0, k, h, _ => by
    rw [if_neg (by omega)]
    exact ⟨by omega, by omega⟩
  | d + 1, k, h, _ => by
    rw [if_pos (by omega), List.range'_succ]
    have hk : k < n := by omega
    refine ⟨rfl, hlt k hk, ?_, ?_⟩
    · rw [hm k hk]; split <;> omega
    · rw [hm k hk]
      by_cases e : k + 1 < n
      · rw [if_pos e]
        have := chain_all hlt hm hn d (k + 1) (by omega) (.inl (by omega))
        rw [if_pos (by omega)] at this
        have e2 : ((k + 2 : Nat) : Int) - 1 = ((k + 1 : Nat) : Int) := by omega
        rw [e2]; exact this
      · rw [if_neg e]
        obtain rfl : d = 0 := by omega
        exact ⟨by omega, by omega⟩
theorem nodes_chain {c : Cf} (hok : c.Ok) : ChainOf (S0 c) (fun i => c.nodesAt + 4 * i + 3) ((part ((S0 c).m 1) 0 32 : Nat) - 1) (List.range' 0 c.nodes) := by
  have h1 := hok.n1
  have h2 := hok.n2
  have h := chain_all (S := S0 c) (lk := fun i => c.nodesAt + 4 * i + 3) (n := c.nodes) (fun i hi => by
    show c.nodesAt + 4 * i + 3 < c.size
    unfold Cf.size Cf.connsAt Cf.ticketsAt; omega) (fun i hi => freshM_nodeLink hok i hi) (by omega) c.nodes 0 (by omega) (.inl (by omega))
  rw [if_pos (by omega)] at h
  have e : (S0 c).m 1 = 1 := freshM_one hok
  rw [e]
  exact h
theorem tickets_chain {c : Cf} (hok : c.Ok) : ChainOf (S0 c) (fun i => c.ticketsAt + 3 * i + 2) ((part ((S0 c).m 2) 0 32 : Nat) - 1) (List.range' 0 c.tickets) := by
  have h1 := hok.t1
  have h2 := hok.t2
  have h := chain_all (S := S0 c) (lk := fun i => c.ticketsAt + 3 * i + 2) (n := c.tickets) (fun i hi => by
    show c.ticketsAt + 3 * i + 2 < c.size
    unfold Cf.size Cf.connsAt; omega) (fun i hi => freshM_ticketLink hok i hi) (by omega) c.tickets 0 (by omega) (.inl (by omega))
  rw [if_pos (by omega)] at h
  have e : (S0 c).m 2 = 1 := freshM_two hok
  rw [e]
  exact h
end Go.Proofs.Ytlbjjooiiikmjaa

