/- All there is while one program runs after the other; a ticket is put into a box. -/
import Derived.Test.YtgemjjpmoejgdaaGreatJoinh
namespace Go.Proofs.YtgemjjpmoejgdaaGreat
open Go.RowKit
set_option maxRecDepth 100000
set_option linter.unusedVariables false

def nlk (c : Cf) (i : Nat) : Nat := c.nodesAt + 4 * i + 3
def tlk (c : Cf) (i : Nat) : Nat := c.ticketsAt + 3 * i + 2
def inb (c : Cf) (s : Nat) : Nat := 3 + s * c.shard
theorem inb_lt {c : Cf} {s : Nat} (hs : s < c.workers) : inb c s + 5 < c.nodesAt + 6 - 6 + 0 + 0 ∨ inb c s < c.nodesAt := by
  refine .inr ?_
  have h1 : (s + 1) * c.shard ≤ c.workers * c.shard := Nat.mul_le_mul_right _ hs
  rw [Nat.add_mul, Nat.one_mul] at h1
  have h2 : 3 ≤ c.shard := by unfold Cf.shard; omega
  unfold inb Cf.nodesAt
  omega
theorem inb_at {c : Cf} {s : Nat} (hs : s < c.workers) : c.inbox s = (inb c s : Int) := by
  unfold Cf.inbox Cf.at_ inb
  rw [among_yes ⟨by omega, by omega⟩, Int.natCast_add, Int.natCast_mul]
  rfl
theorem inb_bd {c : Cf} {s : Nat} (hs : s < c.workers) : 3 ≤ inb c s ∧ inb c s < c.nodesAt := ⟨by unfold inb; omega, by rcases inb_lt hs with h | h <;> omega⟩
theorem inb_inj {c : Cf} {s s' : Nat} (h : inb c s = inb c s') : s = s' := by
  unfold inb at h
  have h2 : 0 < c.shard := by unfold Cf.shard; omega
  exact Nat.eq_of_mul_eq_mul_right h2 (by omega)

theorem upd_same (m : Nat → Nat) (i v : Nat) : upd m i v i = v := by unfold upd; rw [if_pos rfl]
theorem upd_other (m : Nat → Nat) {i j : Nat} (v : Nat) (h : j ≠ i) : upd m i v j = m j := by unfold upd; rw [if_neg h]

/-- All there is: the free nodes, the free tickets, each shard's box. -/
structure Shop (c : Cf) (m : Nat → Nat) (fn ft : List Nat) (bx : Nat → List Nat) : Prop where
  nodes : Ch m (nlk c) (part (m 1) 0 32) fn
  tickets : Ch m (tlk c) (part (m 2) 0 32) ft
  boxes : ∀ s, s < c.workers → Ch m (tlk c) (part (m (inb c s)) 0 32) (bx s)
  nlt : ∀ x ∈ fn, x < c.nodes
  tlt : ∀ x ∈ ft, x < c.tickets
  blt : ∀ s, s < c.workers → ∀ x ∈ bx s, x < c.tickets
  nnd : fn.Nodup
  tnd : ft.Nodup
  bnd : ∀ s, s < c.workers → (bx s).Nodup
  tb : ∀ s, s < c.workers → ∀ x ∈ ft, x ∉ bx s
  bb : ∀ s s', s < c.workers → s' < c.workers → s ≠ s' → ∀ x ∈ bx s, x ∉ bx s'
  key : ∀ s, s < c.workers → ∀ x ∈ bx s, part (m (c.ticketsAt + 3 * x)) 0 16 < c.nodes
def setB (bx : Nat → List Nat) (s : Nat) (l : List Nat) : Nat → List Nat := fun s' => if s' = s then l else bx s'
theorem setB_same (bx : Nat → List Nat) (s : Nat) (l : List Nat) : setB bx s l s = l := by unfold setB; rw [if_pos rfl]
theorem setB_other (bx : Nat → List Nat) {s s' : Nat} (l : List Nat) (h : s' ≠ s) : setB bx s l s' = bx s' := by unfold setB; rw [if_neg h]

theorem nlk_lt {c : Cf} {i : Nat} (h : i < c.nodes) : nlk c i < c.ticketsAt ∧ c.nodesAt ≤ nlk c i := by unfold nlk Cf.ticketsAt; omega
theorem tlk_lt {c : Cf} {i : Nat} (h : i < c.tickets) : tlk c i < c.size ∧ c.ticketsAt ≤ tlk c i := by unfold tlk Cf.size Cf.connsAt; omega
theorem tlk_inj {c : Cf} {i j : Nat} (h : tlk c i = tlk c j) : i = j := by unfold tlk at h; omega
theorem nlk_inj {c : Cf} {i j : Nat} (h : nlk c i = nlk c j) : i = j := by unfold nlk at h; omega
theorem nodes_tickets (c : Cf) : c.nodesAt ≤ c.ticketsAt := by unfold Cf.ticketsAt; omega
theorem deadM_same {c : Cf} {m m' : Nat → Nat} {t : Nat} (h1 : m' (c.ticketsAt + 3 * t) = m (c.ticketsAt + 3 * t)) (h2 : m' (c.nodesAt + 4 * part (m (c.ticketsAt + 3 * t)) 0 16) = m (c.nodesAt + 4 * part (m (c.ticketsAt + 3 * t)) 0 16)) : deadM c m' t = deadM c m t := by
  unfold deadM; rw [h1, h2]

/-- What is turned lies in a box's head, the free tickets' head, tickets' links. -/
def BoxFrame (c : Cf) (s : Nat) (m m' : Nat → Nat) : Prop := ∀ j, j ≠ inb c s → j ≠ 2 → (∀ x, x < c.tickets → j ≠ tlk c x) → m' j = m j
theorem BoxFrame.trans {c : Cf} {s : Nat} {m m1 m2 : Nat → Nat} (h : BoxFrame c s m m1) (k : BoxFrame c s m1 m2) : BoxFrame c s m m2 := fun j a b d => (k j a b d).trans (h j a b d)

/-- A box's first ticket is taken out and freed. -/
theorem Shop.free {c : Cf} {m : Nat → Nat} {fn ft : List Nat} {bx : Nat → List Nat} {s f : Nat} {l : List Nat} (hok : c.Ok) (h : Shop c m fn ft bx) (hs : s < c.workers) (hb : bx s = f :: l) :
    Shop c (upd (upd (upd m (inb c s) (turned (m (inb c s)) ((m (tlk c f) : Int) - 1))) (tlk c f) (part (m 2) 0 32)) 2 (turned (m 2) f)) fn (f :: ft) (setB bx s l) := by
  have hf : f < c.tickets := h.blt s hs f (by rw [hb]; exact List.mem_cons_self ..)
  have hch := h.boxes s hs
  rw [hb] at hch
  have ht2 := hok.t2
  have hbd := inb_bd hs
  have hnt := nodes_tickets c
  have hn9 := hok.nodesAt_le
  have hfl := tlk_lt hf
  have hle : m (tlk c f) ≤ 8192 := by
    have := hch.2.head_le (n := c.tickets) fun x hx => h.blt s hs x (by rw [hb]; exact List.mem_cons_of_mem _ hx)
    omega
  have hnd := h.bnd s hs
  rw [hb] at hnd
  have hfl' : f ∉ l := (List.nodup_cons.1 hnd).1
  have e1 : ∀ j, j ≠ inb c s → j ≠ tlk c f → j ≠ 2 → upd (upd (upd m (inb c s) (turned (m (inb c s)) ((m (tlk c f) : Int) - 1))) (tlk c f) (part (m 2) 0 32)) 2 (turned (m 2) f) j = m j := fun j a b d => by
    rw [upd_other _ _ d, upd_other _ _ b, upd_other _ _ a]
  have chain : ∀ {lk : Nat → Nat} {p : Nat} {xs : List Nat}, Ch m lk p xs → (∀ x ∈ xs, lk x ≠ inb c s ∧ lk x ≠ tlk c f ∧ lk x ≠ 2) → Ch (upd (upd (upd m (inb c s) (turned (m (inb c s)) ((m (tlk c f) : Int) - 1))) (tlk c f) (part (m 2) 0 32)) 2 (turned (m 2) f)) lk p xs := fun hc hx =>
    ((hc.upd fun x hm => (hx x hm).1).upd fun x hm => (hx x hm).2.1).upd fun x hm => (hx x hm).2.2
  have tl : ∀ x, x < c.tickets → x ≠ f → tlk c x ≠ inb c s ∧ tlk c x ≠ tlk c f ∧ tlk c x ≠ 2 := fun x hx hne => ⟨by have := tlk_lt hx; omega, fun e => hne (tlk_inj e), by have := tlk_lt hx; omega⟩
  have hnf : ∀ s', s' < c.workers → s' ≠ s → ∀ x ∈ bx s', x ≠ f := fun s' hs' hne x hx e => h.bb s' s hs' hs hne x hx (by rw [hb, e]; exact List.mem_cons_self ..)
  refine ⟨?_, ?_, ?_, h.nlt, ?_, ?_, h.nnd, ?_, ?_, ?_, ?_, ?_⟩
  · rw [e1 1 (by omega) (by omega) (by omega)]
    exact chain h.nodes fun x hx => by have := nlk_lt (h.nlt x hx); omega
  · rw [upd_same]
    refine ⟨headIdx_turned _ _ (by omega), ?_⟩
    rw [upd_other _ _ (by omega), upd_same]
    exact chain h.tickets fun x hx => tl x (h.tlt x hx) fun e => h.tb s hs x hx (by rw [hb, e]; exact List.mem_cons_self ..)
  · intro s' hs'
    by_cases e : s' = s
    · subst e
      rw [setB_same, upd_other _ _ (by omega), upd_other _ _ (by omega), upd_same, headIdx_next _ _ (by omega)]
      exact chain hch.2 fun x hx => tl x (h.blt s' hs x (by rw [hb]; exact List.mem_cons_of_mem _ hx)) fun e => hfl' (e ▸ hx)
    · have h2 := inb_bd hs'
      rw [setB_other _ _ e, e1 _ (fun q => e (inb_inj q)) (by omega) (by omega)]
      exact chain (h.boxes s' hs') fun x hx => tl x (h.blt s' hs' x hx) (hnf s' hs' e x hx)
  · intro x hx
    rcases List.mem_cons.1 hx with rfl | hx
    · exact hf
    · exact h.tlt x hx
  · intro s' hs' x hx
    by_cases e : s' = s
    · subst e; rw [setB_same] at hx; exact h.blt s' hs x (by rw [hb]; exact List.mem_cons_of_mem _ hx)
    · rw [setB_other _ _ e] at hx; exact h.blt s' hs' x hx
  · exact List.nodup_cons.2 ⟨fun hx => h.tb s hs f hx (by rw [hb]; exact List.mem_cons_self ..), h.tnd⟩
  · intro s' hs'
    by_cases e : s' = s
    · subst e; rw [setB_same]; exact (List.nodup_cons.1 hnd).2
    · rw [setB_other _ _ e]; exact h.bnd s' hs'
  · intro s' hs' x hx
    by_cases e : s' = s
    · subst e
      rw [setB_same]
      rcases List.mem_cons.1 hx with rfl | hx
      · exact hfl'
      · intro q; exact h.tb s' hs x hx (by rw [hb]; exact List.mem_cons_of_mem _ q)
    · rw [setB_other _ _ e]
      rcases List.mem_cons.1 hx with rfl | hx
      · exact fun q => hnf s' hs' e x q rfl
      · exact h.tb s' hs' x hx
  · intro s1 s2 h1 h2 hne x hx
    by_cases e1 : s1 = s
    · subst e1
      rw [setB_same] at hx
      rw [setB_other _ _ (Ne.symm hne)]
      exact h.bb s1 s2 h1 h2 hne x (by rw [hb]; exact List.mem_cons_of_mem _ hx)
    · rw [setB_other _ _ e1] at hx
      by_cases e2 : s2 = s
      · subst e2; rw [setB_same]; exact fun q => h.bb s1 s2 h1 h2 hne x hx (by rw [hb]; exact List.mem_cons_of_mem _ q)
      · rw [setB_other _ _ e2]; exact h.bb s1 s2 h1 h2 hne x hx
  · intro s' hs' x hx
    have hm : x < c.tickets ∧ part (m (c.ticketsAt + 3 * x)) 0 16 < c.nodes := by
      by_cases e : s' = s
      · subst e; rw [setB_same] at hx
        have hx' : x ∈ bx s' := by rw [hb]; exact List.mem_cons_of_mem _ hx
        exact ⟨h.blt s' hs x hx', h.key s' hs x hx'⟩
      · rw [setB_other _ _ e] at hx; exact ⟨h.blt s' hs' x hx, h.key s' hs' x hx⟩
    rw [e1 _ (by omega) (by unfold tlk; omega) (by omega)]
    exact hm.2

/-- A ticket that is nowhere is laid into a box, ahead of all that lie there. -/
theorem Shop.lay {c : Cf} {m : Nat → Nat} {fn ft : List Nat} {bx : Nat → List Nat} {s t : Nat} (hok : c.Ok) (h : Shop c m fn ft bx) (hs : s < c.workers) (ht : t < c.tickets) (hft : t ∉ ft) (hbx : ∀ s', s' < c.workers → t ∉ bx s') (hk : part (m (c.ticketsAt + 3 * t)) 0 16 < c.nodes) :
    Shop c (upd (upd m (tlk c t) (part (m (inb c s)) 0 32)) (inb c s) (turned (m (inb c s)) t)) fn ft (setB bx s (t :: bx s)) := by
  have ht2 := hok.t2
  have hbd := inb_bd hs
  have hnt := nodes_tickets c
  have hn9 := hok.nodesAt_le
  have hfl := tlk_lt ht
  have e1 : ∀ j, j ≠ inb c s → j ≠ tlk c t → upd (upd m (tlk c t) (part (m (inb c s)) 0 32)) (inb c s) (turned (m (inb c s)) t) j = m j := fun j a b => by
    rw [upd_other _ _ a, upd_other _ _ b]
  have chain : ∀ {lk : Nat → Nat} {p : Nat} {xs : List Nat}, Ch m lk p xs → (∀ x ∈ xs, lk x ≠ inb c s ∧ lk x ≠ tlk c t) → Ch (upd (upd m (tlk c t) (part (m (inb c s)) 0 32)) (inb c s) (turned (m (inb c s)) t)) lk p xs := fun hc hx =>
    (hc.upd fun x hm => (hx x hm).2).upd fun x hm => (hx x hm).1
  have tl : ∀ x, x < c.tickets → x ≠ t → tlk c x ≠ inb c s ∧ tlk c x ≠ tlk c t := fun x hx hne => ⟨by have := tlk_lt hx; omega, fun e => hne (tlk_inj e)⟩
  refine ⟨?_, ?_, ?_, h.nlt, h.tlt, ?_, h.nnd, h.tnd, ?_, ?_, ?_, ?_⟩
  · rw [e1 1 (by omega) (by omega)]
    exact chain h.nodes fun x hx => by have := nlk_lt (h.nlt x hx); omega
  · rw [e1 2 (by omega) (by omega)]
    exact chain h.tickets fun x hx => tl x (h.tlt x hx) fun e => hft (e ▸ hx)
  · intro s' hs'
    by_cases e : s' = s
    · subst e
      rw [setB_same, upd_same]
      refine ⟨headIdx_turned _ _ (by omega), ?_⟩
      rw [upd_other _ _ (by omega), upd_same]
      exact chain (h.boxes s' hs) fun x hx => tl x (h.blt s' hs x hx) fun e => hbx s' hs (e ▸ hx)
    · have h2 := inb_bd hs'
      rw [setB_other _ _ e, e1 _ (fun q => e (inb_inj q)) (by omega)]
      exact chain (h.boxes s' hs') fun x hx => tl x (h.blt s' hs' x hx) fun e => hbx s' hs' (e ▸ hx)
  · intro s' hs' x hx
    by_cases e : s' = s
    · subst e; rw [setB_same] at hx
      rcases List.mem_cons.1 hx with rfl | hx
      · exact ht
      · exact h.blt s' hs x hx
    · rw [setB_other _ _ e] at hx; exact h.blt s' hs' x hx
  · intro s' hs'
    by_cases e : s' = s
    · subst e; rw [setB_same]; exact List.nodup_cons.2 ⟨hbx s' hs, h.bnd s' hs⟩
    · rw [setB_other _ _ e]; exact h.bnd s' hs'
  · intro s' hs' x hx
    by_cases e : s' = s
    · subst e; rw [setB_same]
      intro q
      rcases List.mem_cons.1 q with rfl | q
      · exact hft hx
      · exact h.tb s' hs x hx q
    · rw [setB_other _ _ e]; exact h.tb s' hs' x hx
  · intro s1 s2 h1 h2 hne x hx
    by_cases e1 : s1 = s
    · subst e1
      rw [setB_same] at hx
      rw [setB_other _ _ (Ne.symm hne)]
      rcases List.mem_cons.1 hx with rfl | hx
      · exact hbx s2 h2
      · exact h.bb s1 s2 h1 h2 hne x hx
    · rw [setB_other _ _ e1] at hx
      by_cases e2 : s2 = s
      · subst e2; rw [setB_same]
        intro q
        rcases List.mem_cons.1 q with rfl | q
        · exact hbx s1 h1 hx
        · exact h.bb s1 s2 h1 h2 hne x hx q
      · rw [setB_other _ _ e2]; exact h.bb s1 s2 h1 h2 hne x hx
  · intro s' hs' x hx
    have hm : x < c.tickets ∧ part (m (c.ticketsAt + 3 * x)) 0 16 < c.nodes := by
      by_cases e : s' = s
      · subst e; rw [setB_same] at hx
        rcases List.mem_cons.1 hx with rfl | hx
        · exact ⟨ht, hk⟩
        · exact ⟨h.blt s' hs x hx, h.key s' hs x hx⟩
      · rw [setB_other _ _ e] at hx; exact ⟨h.blt s' hs' x hx, h.key s' hs' x hx⟩
    rw [e1 _ (by omega) (by unfold tlk; omega)]
    exact hm.2

section
variable {ρ : Type} {R0 : ρ → Arg → St → St × Option (K (PR ρ))}
/-- A ticket is put into a box: the dead ones that are first are freed. -/
theorem put_alone {c : Cf} (hok : c.Ok) {s t : Nat} (hs : s < c.workers) (ht : t < c.tickets) {fn : List Nat} : ∀ (l : List Nat) {S : St} {ft : List Nat} {bx : Nat → List Nat}, bx s = l → S.n = c.size → Shop c S.m fn ft bx → t ∉ ft → (∀ s', s' < c.workers → t ∉ bx s') →
    part (S.m (c.ticketsAt + 3 * t)) 0 16 < c.nodes → ∃ d m', (∀ n k, iter c (prApp c R0) (n + d) (some (putK c s t k)) S = iterR c (prApp c R0) n (prApp c R0 k .u (S.w d m'))) ∧ d ≤ 8 * (l.takeWhile (deadM c S.m)).length + 5 ∧
      Shop c m' fn ((l.takeWhile (deadM c S.m)).reverse ++ ft) (setB bx s (t :: l.dropWhile (deadM c S.m))) ∧ BoxFrame c s S.m m'
  | [], S, ft, bx, hb, hn, h, hft, hbx, hk => by
    have hbd := inb_bd hs
    have htl := tlk_lt ht
    have hch := h.boxes s hs
    rw [hb] at hch
    have hnt := nodes_tickets c
    have hsz : c.ticketsAt ≤ c.size := by unfold Cf.size Cf.connsAt; omega
    refine ⟨3, _, fun n k => it_put_empty (inb_at hs) (ticketLink_at c t ht) (by omega) (by rw [hn]; exact htl.1) (by show tlk c t ≠ inb c s; omega) hch, by simp, ?_, ?_⟩
    · have := h.lay hok hs ht hft hbx hk
      rw [hb] at this
      exact this
    · intro j a b d
      rw [upd_other _ _ a]; exact upd_other _ _ (d t ht)
  | f :: l, S, ft, bx, hb, hn, h, hft, hbx, hk => by
    have hbd := inb_bd hs
    have htl := tlk_lt ht
    have hch := h.boxes s hs
    rw [hb] at hch
    have hnt := nodes_tickets c
    have hsz : c.ticketsAt ≤ c.size := by unfold Cf.size Cf.connsAt; omega
    have hf : f < c.tickets := h.blt s hs f (by rw [hb]; exact List.mem_cons_self ..)
    have hfk := h.key s hs f (by rw [hb]; exact List.mem_cons_self ..)
    cases hd : deadM c S.m f with
    | false =>
      rw [List.takeWhile_cons, List.dropWhile_cons, hd]
      refine ⟨5, _, fun n k => it_put_alive hn (inb_at hs) (ticketLink_at c t ht) (by omega) (by rw [hn]; exact htl.1) (by show tlk c t ≠ inb c s; omega) hch.1 hf hfk hd, by simp, ?_, ?_⟩
      · have := h.lay hok hs ht hft hbx hk
        rw [hb] at this
        exact this
      · intro j a b d
        rw [upd_other _ _ a]; exact upd_other _ _ (d t ht)
    | true =>
      rw [List.takeWhile_cons, List.dropWhile_cons, hd]
      have hle : S.m (tlk c f) ≤ 8192 := by
        have := hch.2.head_le (n := c.tickets) fun x hx => h.blt s hs x (by rw [hb]; exact List.mem_cons_of_mem _ hx)
        have := hok.t2
        omega
      have h1 := h.free hok hs hb
      have hfne : t ≠ f := fun e => hbx s hs (by rw [hb, e]; exact List.mem_cons_self ..)
      have fr1 : BoxFrame c s S.m (upd (upd (upd S.m (inb c s) (turned (S.m (inb c s)) ((S.m (tlk c f) : Int) - 1))) (tlk c f) (part (S.m 2) 0 32)) 2 (turned (S.m 2) f)) := fun j a b d => by
        rw [upd_other _ _ b, upd_other _ _ (d f hf), upd_other _ _ a]
      generalize hm1 : upd (upd (upd S.m (inb c s) (turned (S.m (inb c s)) ((S.m (tlk c f) : Int) - 1))) (tlk c f) (part (S.m 2) 0 32)) 2 (turned (S.m 2) f) = m1 at *
      have hn9 := hok.nodesAt_le
      have hkey : ∀ x, m1 (c.ticketsAt + 3 * x) = S.m (c.ticketsAt + 3 * x) := fun x => fr1 _ (by omega) (by omega) (fun y _ => by unfold tlk; omega)
      have hstate : ∀ x, x < c.nodes → m1 (c.nodesAt + 4 * x) = S.m (c.nodesAt + 4 * x) := fun x hx => fr1 _ (by omega) (by omega) (fun y _ => by unfold tlk Cf.ticketsAt; omega)
      have hsame : ∀ x ∈ l, deadM c m1 x = deadM c S.m x := fun x hx => deadM_same (hkey x) (hstate _ (h.key s hs x (by rw [hb]; exact List.mem_cons_of_mem _ hx)))
      have htw : l.takeWhile (deadM c m1) = l.takeWhile (deadM c S.m) ∧ l.dropWhile (deadM c m1) = l.dropWhile (deadM c S.m) := by
        clear hm1 h1 hb hch hk fr1 hkey hstate
        induction l with
        | nil => exact ⟨rfl, rfl⟩
        | cons y l ih =>
          have e := hsame y (List.mem_cons_self ..)
          obtain ⟨i1, i2⟩ := ih fun x hx => hsame x (List.mem_cons_of_mem _ hx)
          rw [List.takeWhile_cons, List.takeWhile_cons, List.dropWhile_cons, List.dropWhile_cons, e, i1, i2]
          exact ⟨rfl, rfl⟩
      obtain ⟨d, m', hi, hdl, hsh, hfr⟩ := put_alone hok hs ht (fn := fn) l (S := S.w 8 m1) (ft := f :: ft) (bx := setB bx s l) (setB_same _ _ _) hn h1
        (by intro q; rcases List.mem_cons.1 q with e | q; exact hfne e; exact hft q)
        (by
          intro s' hs'
          by_cases e : s' = s
          · subst e; rw [setB_same]; exact fun q => hbx s' hs' (by rw [hb]; exact List.mem_cons_of_mem _ q)
          · rw [setB_other _ _ e]; exact hbx s' hs')
        (by show part (m1 _) 0 16 < _; rw [hkey]; exact hk)
      refine ⟨8 + d, m', ?_, ?_, ?_, fr1.trans hfr⟩
      · intro n k
        rw [show n + (8 + d) = (n + d) + 8 by omega, it_put_dead hn (inb_at hs) rfl (by omega) hbd.1 (by omega) hch.1 hf hfk hd (by show S.m (tlk c f) ≤ _; omega)]
        show iter c (prApp c R0) (n + d) (some (putK c s t k)) (S.w 8 (upd (upd (upd S.m (inb c s) (turned (S.m (inb c s)) ((S.m (tlk c f) : Int) - 1))) (tlk c f) (part (S.m 2) 0 32)) 2 (turned (S.m 2) f))) = _
        rw [hm1, hi]
        have e : (S.w 8 m1).w d m' = S.w (8 + d) m' := by unfold St.w; simp only [Nat.add_assoc]
        rw [e]
      · have hdl' : d ≤ 8 * (l.takeWhile (deadM c m1)).length + 5 := hdl
        rw [htw.1] at hdl'
        simp only [if_true, List.length_cons]
        omega
      · have hsh' : Shop c m' fn ((l.takeWhile (deadM c m1)).reverse ++ (f :: ft)) (setB (setB bx s l) s (t :: l.dropWhile (deadM c m1))) := hsh
        rw [htw.1, htw.2] at hsh'
        have e : setB (setB bx s l) s (t :: l.dropWhile (deadM c S.m)) = setB bx s (t :: l.dropWhile (deadM c S.m)) := by
          funext x; unfold setB; split <;> rfl
        rw [e] at hsh'
        simp only [if_true, List.reverse_cons, List.append_assoc, List.singleton_append]
        exact hsh'
end
end Go.Proofs.YtgemjjpmoejgdaaGreat
/- A Start that is done alone. -/
namespace Go.Proofs.YtgemjjpmoejgdaaGreat
open Go.RowKit
set_option maxRecDepth 100000
set_option linter.unusedVariables false

theorem fits_yes {n : Int} {w : Nat} (h0 : 0 ≤ n) (h1 : n < 2 ^ w) : fits n w = true := by unfold fits; exact decide_eq_true ⟨h0, h1⟩
theorem packed3 (a b c : Nat) {A B P1 P2 P3 : Nat} (hA : 2 ^ (64 - a) = A) (hB : 2 ^ (64 - (a + b)) = B) (p1 : 2 ^ a = P1) (p2 : 2 ^ b = P2) (p3 : 2 ^ c = P3) (n1 n2 n3 : Nat) (h1 : n1 < P1) (h2 : n2 < P2) (h3 : n3 < P3) (hs : a + b + c = 64) : (packed [a, b, c] [(n1 : Int), (n2 : Int), (n3 : Int)]).1 = n1 * A + n2 * B + n3 := by
  subst p1 p2 p3
  have c1 : ∀ n w : Nat, n < 2 ^ w → fits (n : Int) w = true := fun n w h => fits_yes (by omega) (by exact_mod_cast h)
  unfold packed
  simp only [List.length_cons, List.length_nil]
  rw [if_pos (by simp [List.range_succ, c1 _ _ h1, c1 _ _ h2, c1 _ _ h3])]
  simp only [packAcc, wsum, List.take_succ_cons, List.take_zero, List.sum_cons, List.sum_nil, List.getD_cons_zero, List.getD_cons_succ, Int.toNat_natCast]
  have e : 64 - (a + (b + (c + 0))) = 0 := by omega
  rw [e, Nat.add_zero, Nat.add_zero, hA, hB]
  simp [Nat.add_assoc]
theorem stateWord_nat (g t s : Nat) (hg : g < 4294967296) (ht : t < 1073741824) (hs : s < 4) : stateWord g t s = g * 4294967296 + t * 4 + s :=
  (stateWord_eq g t s).symm.trans <| packed3 32 30 2 (by decide) (by decide) (by decide) (by decide) (by decide) g t s hg ht hs rfl
theorem keyWord_eq (g v n : Int) : (packed [32, 16, 16] [g, v, n]).1 = keyWord g v n := rfl
theorem keyWord_nat (g v n : Nat) (hg : g < 4294967296) (hv : v < 65536) (hn : n < 65536) : keyWord g v n = g * 4294967296 + v * 65536 + n :=
  (keyWord_eq g v n).symm.trans <| packed3 32 16 16 (by decide) (by decide) (by decide) (by decide) (by decide) g v n hg hv hn rfl
theorem part_hi (x : Nat) : part x 32 32 = x / 4294967296 % 4294967296 := by unfold part; rfl
theorem part_16 (x : Nat) : part x 16 16 = x / 65536 % 65536 := by unfold part; rfl
theorem part_0_16 (x : Nat) : part x 0 16 = x % 65536 := by unfold part; simp
theorem part_2_30 (x : Nat) : part x 2 30 = x / 4 % 1073741824 := by unfold part; rfl
theorem part_0_2 (x : Nat) : part x 0 2 = x % 4 := by unfold part; simp
theorem state_parts3 (g t s : Nat) (hg : g < 4294967296) (ht : t < 1073741824) (hs : s < 4) : part (stateWord g t s) 32 32 = g ∧ part (stateWord g t s) 2 30 = t ∧ part (stateWord g t s) 0 2 = s := by
  rw [stateWord_nat g t s hg ht hs, part_hi, part_2_30, part_0_2]
  refine ⟨?_, ?_, ?_⟩ <;> omega
theorem key_parts3 (g v n : Nat) (hg : g < 4294967296) (hv : v < 65536) (hn : n < 65536) : part (keyWord g v n) 32 32 = g ∧ part (keyWord g v n) 16 16 = v ∧ part (keyWord g v n) 0 16 = n := by
  rw [keyWord_nat g v n hg hv hn, part_hi, part_16, part_0_16]
  refine ⟨?_, ?_, ?_⟩ <;> omega

theorem Ch.same {m m' lk : Nat → Nat} : ∀ {xs : List Nat} {p : Nat}, Ch m lk p xs → (∀ x ∈ xs, m' (lk x) = m (lk x)) → Ch m' lk p xs
  | [], _, h, _ => h
  | x :: xs, p, h, hn => by
    refine ⟨h.1, ?_⟩
    rw [hn x (List.mem_cons_self ..)]
    exact h.2.same fun y hy => hn y (List.mem_cons_of_mem _ hy)
/-- Nothing was turned that lists hang on. -/
theorem Shop.same {c : Cf} {m m' : Nat → Nat} {fn ft : List Nat} {bx : Nat → List Nat} (h : Shop c m fn ft bx) (h1 : ∀ j, 1 ≤ j → j < c.nodesAt → m' j = m j) (h2 : ∀ x, x < c.nodes → m' (nlk c x) = m (nlk c x)) (h3 : ∀ x, x < c.tickets → m' (tlk c x) = m (tlk c x))
    (h4 : ∀ s, s < c.workers → ∀ x ∈ bx s, m' (c.ticketsAt + 3 * x) = m (c.ticketsAt + 3 * x)) (h9 : 9 ≤ c.nodesAt) : Shop c m' fn ft bx where
  nodes := by rw [h1 1 (by omega) (by omega)]; exact h.nodes.same fun x hx => h2 x (h.nlt x hx)
  tickets := by rw [h1 2 (by omega) (by omega)]; exact h.tickets.same fun x hx => h3 x (h.tlt x hx)
  boxes := fun s hs => by rw [h1 _ (by have := inb_bd hs; omega) (inb_bd hs).2]; exact (h.boxes s hs).same fun x hx => h3 x (h.blt s hs x hx)
  nlt := h.nlt
  tlt := h.tlt
  blt := h.blt
  nnd := h.nnd
  tnd := h.tnd
  bnd := h.bnd
  tb := h.tb
  bb := h.bb
  key := fun s hs x hx => by rw [h4 s hs x hx]; exact h.key s hs x hx
theorem Shop.popNode {c : Cf} {m : Nat → Nat} {fn ft : List Nat} {bx : Nat → List Nat} {x : Nat} (hok : c.Ok) (h : Shop c m (x :: fn) ft bx) : Shop c (upd m 1 (turned (m 1) ((m (nlk c x) : Int) - 1))) fn ft bx := by
  have n9 := hok.nodesAt_le
  have nt := nodes_tickets c
  have n2 := hok.n2
  have hle := h.nodes.2.head_le (n := c.nodes) fun y hy => h.nlt y (List.mem_cons_of_mem _ hy)
  refine ⟨?_, ?_, ?_, fun y hy => h.nlt y (List.mem_cons_of_mem _ hy), h.tlt, h.blt, (List.nodup_cons.1 h.nnd).2, h.tnd, h.bnd, h.tb, h.bb, ?_⟩
  · rw [upd_same, headIdx_next _ _ (by omega)]
    exact h.nodes.2.upd fun y hy => by have := nlk_lt (h.nlt y (List.mem_cons_of_mem _ hy)); omega
  · rw [upd_other _ _ (by omega)]
    exact h.tickets.upd fun y hy => by have := tlk_lt (h.tlt y hy); omega
  · intro s hs
    have := inb_bd hs
    rw [upd_other _ _ (by omega)]
    exact (h.boxes s hs).upd fun y hy => by have := tlk_lt (h.blt s hs y hy); omega
  · intro s hs y hy
    rw [upd_other _ _ (by omega)]
    exact h.key s hs y hy
theorem Shop.popTicket {c : Cf} {m : Nat → Nat} {fn ft : List Nat} {bx : Nat → List Nat} {x : Nat} (hok : c.Ok) (h : Shop c m fn (x :: ft) bx) : Shop c (upd m 2 (turned (m 2) ((m (tlk c x) : Int) - 1))) fn ft bx := by
  have n9 := hok.nodesAt_le
  have nt := nodes_tickets c
  have n2 := hok.t2
  have hle := h.tickets.2.head_le (n := c.tickets) fun y hy => h.tlt y (List.mem_cons_of_mem _ hy)
  refine ⟨?_, ?_, ?_, h.nlt, fun y hy => h.tlt y (List.mem_cons_of_mem _ hy), h.blt, h.nnd, (List.nodup_cons.1 h.tnd).2, h.bnd, fun s hs y hy => h.tb s hs y (List.mem_cons_of_mem _ hy), h.bb, ?_⟩
  · rw [upd_other _ _ (by omega)]
    exact h.nodes.upd fun y hy => by have := nlk_lt (h.nlt y hy); omega
  · rw [upd_same, headIdx_next _ _ (by omega)]
    exact h.tickets.2.upd fun y hy => by have := tlk_lt (h.tlt y (List.mem_cons_of_mem _ hy)); omega
  · intro s hs
    have := inb_bd hs
    rw [upd_other _ _ (by omega)]
    exact (h.boxes s hs).upd fun y hy => by have := tlk_lt (h.blt s hs y hy); omega
  · intro s hs y hy
    rw [upd_other _ _ (by omega)]
    exact h.key s hs y hy
theorem Shop.pushNode {c : Cf} {m : Nat → Nat} {fn ft : List Nat} {bx : Nat → List Nat} {x : Nat} (hok : c.Ok) (h : Shop c m fn ft bx) (hx : x < c.nodes) (hf : x ∉ fn) : Shop c (upd (upd m (nlk c x) (part (m 1) 0 32)) 1 (turned (m 1) x)) (x :: fn) ft bx := by
  have n9 := hok.nodesAt_le
  have nt := nodes_tickets c
  have n2 := hok.n2
  have hl := nlk_lt hx
  refine ⟨?_, ?_, ?_, ?_, h.tlt, h.blt, List.nodup_cons.2 ⟨hf, h.nnd⟩, h.tnd, h.bnd, h.tb, h.bb, ?_⟩
  · rw [upd_same]
    refine ⟨headIdx_turned _ _ (by omega), ?_⟩
    rw [upd_other _ _ (by omega), upd_same]
    exact (h.nodes.upd fun y hy => fun e => hf (by rw [← nlk_inj e]; exact hy)).upd fun y hy => by have := nlk_lt (h.nlt y hy); omega
  · rw [upd_other _ _ (by omega), upd_other _ _ (by omega)]
    exact (h.tickets.upd fun y hy => by have := tlk_lt (h.tlt y hy); omega).upd fun y hy => by have := tlk_lt (h.tlt y hy); omega
  · intro s hs
    have := inb_bd hs
    rw [upd_other _ _ (by omega), upd_other _ _ (by omega)]
    exact ((h.boxes s hs).upd fun y hy => by have := tlk_lt (h.blt s hs y hy); omega).upd fun y hy => by have := tlk_lt (h.blt s hs y hy); omega
  · intro y hy
    rcases List.mem_cons.1 hy with rfl | hy
    · exact hx
    · exact h.nlt y hy
  · intro s hs y hy
    rw [upd_other _ _ (by omega), upd_other _ _ (by omega)]
    exact h.key s hs y hy

section
variable {ρ : Type} {R0 : ρ → Arg → St → St × Option (K (PR ρ))} {c : Cf} {wk ticks shard user : Int} {k : PR ρ} {S : St} {fn ft : List Nat} {bx : Nat → List Nat}
theorem start_arg (h : ticks < 0 ∨ user < 0 ∨ shard < 0 ∨ (c.workers : Int) ≤ shard) (n : Nat) :
    iter c (prApp c R0) (n + 1) (some (startK c wk ticks shard user k)) S = iterR c (prApp c R0) n (prApp c R0 k (.he 0 0 1) (S.note (startPoint wk 0 0 0 1))) := by
  unfold startK
  rw [if_pos h]
  rfl
theorem toI_clock {x : Nat} (hx : x ≤ 1073741823) : toI x = x := by unfold toI wrap64; omega
theorem St.w_m (S : St) (d : Nat) (m : Nat → Nat) : (S.w d m).m = m := rfl
theorem St.w_w (S : St) (d e : Nat) (m m' : Nat → Nat) : (S.w d m).w e m' = S.w (d + e) m' := by unfold St.w; simp only [Nat.add_assoc]
theorem St.w_note (S : St) (d : Nat) (m : Nat → Nat) (e : Ev) : (S.w d m).note e = (S.note e).w d m := rfl
theorem St.note_m (S : St) (e : Ev) : (S.note e).m = S.m := rfl
theorem iterR_some {ρ : Type} {cf : Cf} {R : ρ → Arg → St → St × Option (K ρ)} (n : Nat) (S : St) (κ : K ρ) : iterR cf R n (S, some κ) = iter cf R n (some κ) S := rfl
theorem st1_w (x : Nat) (T : St) (hx : x ≤ 1073741823) : prApp c R0 (.st1 wk ticks shard user k) (.w x) T = if 1073741823 - (x : Int) < ticks then prApp c R0 k (.he 0 0 2) (T.note (startPoint wk 0 0 0 2)) else (T, some (popK .nodes (.ret (.st2 wk shard user ((x : Int) + ticks) k)))) := by
  rw [prApp, if_neg (by omega), toI_clock hx]
theorem st2_yes' (x : Nat) (dl : Int) (T : St) : prApp c R0 (.st2 wk shard user dl k) (.pop (x : Int) true) T = (T, some (.load (c.state x) (.ret (.st3 wk shard user dl x k)))) := by
  rw [prApp, if_neg (by omega), if_pos rfl]
theorem st2_no' (dl : Int) (T : St) : prApp c R0 (.st2 wk shard user dl k) (.pop (-1) false) T = prApp c R0 k (.he 0 0 3) (T.note (startPoint wk 0 0 0 3)) := by
  rw [prApp, if_neg (by simp), if_neg (by simp)]
theorem st3_gone (x : Nat) (n dl : Int) (T : St) (h : part x 32 32 = 4294967295) : prApp c R0 (.st3 wk shard user dl n k) (.w x) T = prApp c R0 k (.he 0 0 5) (T.note (startPoint wk 0 0 0 5)) := by
  rw [prApp, if_pos h]
theorem st3_yes' (x : Nat) (n dl : Int) (T : St) (h : ¬ part x 32 32 = 4294967295) : prApp c R0 (.st3 wk shard user dl n k) (.w x) T = (T, some (popK .tickets (.ret (.st4 wk shard user dl n ((part x 32 32 : Nat) + 1) k)))) := by
  rw [prApp, if_neg h]
theorem st4_no' (n gen dl : Int) (T : St) : prApp c R0 (.st4 wk shard user dl n gen k) (.pop (-1) false) T = (T.note (startPoint wk 0 0 0 3), some (pushK .nodes n (.ret (.st5 k)))) := by
  rw [prApp, if_neg (by simp)]
theorem st4_yes' (n gen dl t : Int) (T : St) : prApp c R0 (.st4 wk shard user dl n gen k) (.pop t true) T = (T, some (writeK c t gen 0 n dl (.ret (.st6 wk shard user dl n gen t k)))) := by
  rw [prApp, if_pos rfl]
theorem st5_u (T : St) : prApp c R0 (.st5 k) .u T = prApp c R0 k (.he 0 0 3) T := by rw [prApp]
theorem st6_u (n gen dl t : Int) (T : St) : prApp c R0 (.st6 wk shard user dl n gen t k) .u T = (T, some (.store (c.user n) (toU user) (.ret (.st7 wk shard dl n gen t k)))) := by rw [prApp]
theorem st7_u (n gen dl t : Int) (T : St) : prApp c R0 (.st7 wk shard dl n gen t k) .u T = (T, some (.store (c.state n) (stateWord gen dl 1) (.ret (.st8 wk shard dl n gen t k)))) := by rw [prApp]
theorem st8_u (n gen dl t : Int) (T : St) : prApp c R0 (.st8 wk shard dl n gen t k) .u T = (T.note (startPoint wk n gen dl 0), some (putK c shard t (.st9 n gen k))) := by rw [prApp]
theorem st9_u (n gen : Int) (T : St) : prApp c R0 (.st9 n gen k) .u T = prApp c R0 k (.he n gen 0) T := by rw [prApp]
theorem start_load (h : ¬ (ticks < 0 ∨ user < 0 ∨ shard < 0 ∨ (c.workers : Int) ≤ shard)) (h0 : 0 < S.n) (hx : S.m 0 ≤ 1073741823) (n : Nat) :
    iter c (prApp c R0) (n + 1) (some (startK c wk ticks shard user k)) S = iterR c (prApp c R0) n (if 1073741823 - (S.m 0 : Int) < ticks then prApp c R0 k (.he 0 0 2) ((S.w 1 S.m).note (startPoint wk 0 0 0 2)) else (S.w 1 S.m, some (popK .nodes (.ret (.st2 wk shard user ((S.m 0 : Int) + ticks) k))))) := by
  unfold startK
  rw [if_neg h]
  show iter c (prApp c R0) (n + 1) (some (.load ((0 : Nat) : Int) (.ret (.st1 wk ticks shard user k)))) S = _
  rw [it_load h0, app_ret, st1_w _ _ hx]
theorem start_range (h : ¬ (ticks < 0 ∨ user < 0 ∨ shard < 0 ∨ (c.workers : Int) ≤ shard)) (h0 : 0 < S.n) (hx : S.m 0 ≤ 1073741823) (hf : 1073741823 - (S.m 0 : Int) < ticks) (n : Nat) :
    iter c (prApp c R0) (n + 1) (some (startK c wk ticks shard user k)) S = iterR c (prApp c R0) n (prApp c R0 k (.he 0 0 2) ((S.w 1 S.m).note (startPoint wk 0 0 0 2))) := by
  rw [start_load h h0 hx, if_pos hf]
theorem start_empty (h : ¬ (ticks < 0 ∨ user < 0 ∨ shard < 0 ∨ (c.workers : Int) ≤ shard)) (hn : S.n = c.size) (hok : c.Ok) (hx : S.m 0 ≤ 1073741823) (hf : ¬ 1073741823 - (S.m 0 : Int) < ticks) (hs : Shop c S.m [] ft bx) (n : Nat) :
    iter c (prApp c R0) (n + 2) (some (startK c wk ticks shard user k)) S = iterR c (prApp c R0) n (prApp c R0 k (.he 0 0 3) ((S.w 2 S.m).note (startPoint wk 0 0 0 3))) := by
  have hsz := hok.size_le
  rw [start_load h (by omega) hx (n + 1), if_neg hf, iterR_some, it_pop_none (st := .nodes) (S := S.w 1 S.m) (by show 1 < S.n; omega) hs.nodes, app_ret, st2_no', St.w_w, St.w_m]
/-- A node is taken. -/
theorem start_node (h : ¬ (ticks < 0 ∨ user < 0 ∨ shard < 0 ∨ (c.workers : Int) ≤ shard)) (hn : S.n = c.size) (hok : c.Ok) (hx : S.m 0 ≤ 1073741823) (hf : ¬ 1073741823 - (S.m 0 : Int) < ticks) {x : Nat} (hs : Shop c S.m (x :: fn) ft bx) (n : Nat) :
    iter c (prApp c R0) (n + 5) (some (startK c wk ticks shard user k)) S =
      iterR c (prApp c R0) n (prApp c R0 (.st3 wk shard user ((S.m 0 : Int) + ticks) x k) (.w (S.m (c.nodesAt + 4 * x))) (S.w 5 (upd S.m 1 (turned (S.m 1) ((S.m (nlk c x) : Int) - 1))))) := by
  have hsz := hok.size_le
  have hxn : x < c.nodes := hs.nlt x (List.mem_cons_self ..)
  have hle := hs.nodes.2.head_le (n := c.nodes) fun y hy => hs.nlt y (List.mem_cons_of_mem _ hy)
  have n2 := hok.n2
  have n9 := hok.nodesAt_le
  have hl := nlk_lt hxn
  have hts : c.ticketsAt ≤ c.size := by unfold Cf.size Cf.connsAt; omega
  have e : upd S.m 1 (turned (S.m 1) ((S.m (nlk c x) : Int) - 1)) (c.nodesAt + 4 * x) = S.m (c.nodesAt + 4 * x) := upd_other _ _ (by omega)
  rw [start_load h (by omega) hx (n + 4), if_neg hf, iterR_some, show n + 4 = (n + 1) + 3 from rfl,
    it_pop (st := .nodes) (S := S.w 1 S.m) (f := x) (l := nlk c x) (by show 1 < S.n; omega) hs.nodes.1 (nodeLink_at c x hxn) (by show nlk c x < S.n; omega) (by show S.m (nlk c x) ≤ _; omega),
    app_ret, st2_yes', iterR_some, state_at c x hxn, it_load (by show c.nodesAt + 4 * x < S.n; unfold nlk at hl; omega), app_ret]
  simp only [St.w_w, St.w_m, Stk.headN]
  rw [e]
theorem start_gone (h : ¬ (ticks < 0 ∨ user < 0 ∨ shard < 0 ∨ (c.workers : Int) ≤ shard)) (hn : S.n = c.size) (hok : c.Ok) (hx : S.m 0 ≤ 1073741823) (hf : ¬ 1073741823 - (S.m 0 : Int) < ticks) {x : Nat} (hs : Shop c S.m (x :: fn) ft bx)
    (hg : part (S.m (c.nodesAt + 4 * x)) 32 32 = 4294967295) (n : Nat) :
    iter c (prApp c R0) (n + 5) (some (startK c wk ticks shard user k)) S = iterR c (prApp c R0) n (prApp c R0 k (.he 0 0 5) ((S.w 5 (upd S.m 1 (turned (S.m 1) ((S.m (nlk c x) : Int) - 1)))).note (startPoint wk 0 0 0 5))) := by
  rw [start_node h hn hok hx hf hs, st3_gone _ _ _ _ hg]
/-- There is no ticket: the node is put back. -/
theorem start_full (h : ¬ (ticks < 0 ∨ user < 0 ∨ shard < 0 ∨ (c.workers : Int) ≤ shard)) (hn : S.n = c.size) (hok : c.Ok) (hx : S.m 0 ≤ 1073741823) (hf : ¬ 1073741823 - (S.m 0 : Int) < ticks) {x : Nat} (hs : Shop c S.m (x :: fn) [] bx)
    (hg : ¬ part (S.m (c.nodesAt + 4 * x)) 32 32 = 4294967295) : ∃ m', (∀ n, iter c (prApp c R0) (n + 9) (some (startK c wk ticks shard user k)) S = iterR c (prApp c R0) n (prApp c R0 k (.he 0 0 3) ((S.w 9 m').note (startPoint wk 0 0 0 3)))) ∧
      Shop c m' (x :: fn) [] bx ∧ ∀ j, j ≠ 1 → j ≠ nlk c x → m' j = S.m j := by
  have hsz := hok.size_le
  have hxn : x < c.nodes := hs.nlt x (List.mem_cons_self ..)
  have n9 := hok.nodesAt_le
  have hl := nlk_lt hxn
  have hts : c.ticketsAt ≤ c.size := by unfold Cf.size Cf.connsAt; omega
  have hs1 := hs.popNode hok
  have e1 : ∀ j, j ≠ 1 → upd S.m 1 (turned (S.m 1) ((S.m (nlk c x) : Int) - 1)) j = S.m j := fun j hj => upd_other _ _ hj
  have hnode := fun n => start_node (wk := wk) (k := k) (R0 := R0) h hn hok hx hf hs (n + 4)
  generalize hm1 : upd S.m 1 (turned (S.m 1) ((S.m (nlk c x) : Int) - 1)) = m1 at *
  refine ⟨upd (upd m1 (nlk c x) (part (m1 1) 0 32)) 1 (turned (m1 1) x), fun n => ?_, hs1.pushNode hok hxn (List.nodup_cons.1 hs.nnd).1, fun j a b => by rw [upd_other _ _ a, upd_other _ _ b]; exact e1 j a⟩
  rw [show n + 9 = (n + 4) + 5 from rfl, hnode, st3_yes' _ _ _ _ hg, iterR_some, show n + 4 = (n + 3) + 1 from rfl, it_pop_none (st := .tickets) (S := S.w 5 m1) (by show 2 < S.n; omega) hs1.tickets, app_ret, st4_no', iterR_some,
    it_push (st := .nodes) (cf := c) (i := (x : Int)) (l := nlk c x) (by show 1 < S.n; omega) (nodeLink_at c x hxn) (by show nlk c x < S.n; omega) (by show nlk c x ≠ 1; omega), app_ret, st5_u]
  simp only [St.w_w, St.w_m, St.w_note, St.note_m, Stk.headN]
/-- What a Start that succeeds leaves. -/
structure Started (c : Cf) (m m' : Nat → Nat) (x t s : Nat) (gen deadline user : Int) : Prop where
  state : m' (c.nodesAt + 4 * x) = stateWord gen deadline 1
  user : m' (c.nodesAt + 4 * x + 2) = toU user
  key : m' (c.ticketsAt + 3 * t) = keyWord gen 0 x
  time : m' (c.ticketsAt + 3 * t + 1) = toU (upI deadline c.slack)
  rest : ∀ j, j ≠ 1 → j ≠ 2 → j ≠ inb c s → j ≠ c.nodesAt + 4 * x → j ≠ c.nodesAt + 4 * x + 2 → j ≠ c.ticketsAt + 3 * t → j ≠ c.ticketsAt + 3 * t + 1 → (∀ y, y < c.tickets → j ≠ tlk c y) → m' j = m j
/-- What is written when a node and a ticket are taken. -/
def armM (c : Cf) (m : Nat → Nat) (x t : Nat) (gen deadline user : Int) : Nat → Nat :=
  upd (upd (upd (upd m (c.ticketsAt + 3 * t) (keyWord gen 0 x)) (c.ticketsAt + 3 * t + 1) (toU (upI deadline c.slack))) (c.nodesAt + 4 * x + 2) (toU user)) (c.nodesAt + 4 * x) (stateWord gen deadline 1)
theorem armM_rest {c : Cf} {m : Nat → Nat} {x t : Nat} {gen deadline user : Int} (j : Nat) (a : j ≠ c.ticketsAt + 3 * t) (b : j ≠ c.ticketsAt + 3 * t + 1) (d : j ≠ c.nodesAt + 4 * x + 2) (e : j ≠ c.nodesAt + 4 * x) : armM c m x t gen deadline user j = m j := by
  unfold armM; rw [upd_other _ _ e, upd_other _ _ d, upd_other _ _ b, upd_other _ _ a]
theorem armM_state {c : Cf} {m : Nat → Nat} {x t : Nat} {gen deadline user : Int} : armM c m x t gen deadline user (c.nodesAt + 4 * x) = stateWord gen deadline 1 := upd_same _ _ _
theorem armM_user {c : Cf} {m : Nat → Nat} {x t : Nat} {gen deadline user : Int} : armM c m x t gen deadline user (c.nodesAt + 4 * x + 2) = toU user := by
  unfold armM; rw [upd_other _ _ (by omega)]; exact upd_same _ _ _
theorem armM_key {c : Cf} {m : Nat → Nat} {x t : Nat} {gen deadline user : Int} (hx : c.nodesAt + 4 * x + 3 < c.ticketsAt) : armM c m x t gen deadline user (c.ticketsAt + 3 * t) = keyWord gen 0 x := by
  unfold armM; rw [upd_other _ _ (by omega), upd_other _ _ (by omega), upd_other _ _ (by omega)]; exact upd_same _ _ _
theorem armM_time {c : Cf} {m : Nat → Nat} {x t : Nat} {gen deadline user : Int} (hx : c.nodesAt + 4 * x + 3 < c.ticketsAt) : armM c m x t gen deadline user (c.ticketsAt + 3 * t + 1) = toU (upI deadline c.slack) := by
  unfold armM; rw [upd_other _ _ (by omega), upd_other _ _ (by omega)]; exact upd_same _ _ _
theorem Shop.arm {c : Cf} {m : Nat → Nat} {fn ft : List Nat} {bx : Nat → List Nat} {x t : Nat} {gen deadline user : Int} (hok : c.Ok) (h : Shop c m fn ft bx) (hx : x < c.nodes) (ht : ∀ s, s < c.workers → t ∉ bx s) : Shop c (armM c m x t gen deadline user) fn ft bx := by
  have n9 := hok.nodesAt_le
  have hnt := nodes_tickets c
  have hxt : c.nodesAt + 4 * x + 3 < c.ticketsAt := (nlk_lt hx).1
  refine h.same ?_ ?_ ?_ ?_ n9.1
  · intro j hj1 hj
    exact armM_rest j (by omega) (by omega) (by omega) (by omega)
  · intro y hy
    have := nlk_lt hy
    exact armM_rest _ (by omega) (by omega) (by unfold nlk; omega) (by unfold nlk; omega)
  · intro y hy
    have := tlk_lt hy
    exact armM_rest _ (by unfold tlk; omega) (by unfold tlk; omega) (by omega) (by omega)
  · intro s' hs' y hy
    have hne : y ≠ t := fun e => ht s' hs' (e ▸ hy)
    exact armM_rest _ (by omega) (by omega) (by omega) (by omega)
theorem start_ok {s : Nat} (hsh : shard = (s : Int)) (hsw : s < c.workers) (h : ¬ (ticks < 0 ∨ user < 0 ∨ shard < 0 ∨ (c.workers : Int) ≤ shard)) (hn : S.n = c.size) (hok : c.Ok) (hx : S.m 0 ≤ 1073741823) (hf : ¬ 1073741823 - (S.m 0 : Int) < ticks) {x t : Nat} (hs : Shop c S.m (x :: fn) (t :: ft) bx)
    {gn : Nat} (hgn : part (S.m (c.nodesAt + 4 * x)) 32 32 = gn) (hg : ¬ gn = 4294967295) : ∃ d m' ms, (∀ n, iter c (prApp c R0) (n + d) (some (startK c wk ticks shard user k)) S = iterR c (prApp c R0) n (prApp c R0 k (.he x ((gn : Int) + 1) 0) ((S.w d m').note (startPoint wk x ((gn : Int) + 1) ((S.m 0 : Int) + ticks) 0)))) ∧
      d ≤ 8 * ((bx s).takeWhile (deadM c ms)).length + 17 ∧ 1 ≤ d ∧
      Shop c m' fn (((bx s).takeWhile (deadM c ms)).reverse ++ ft) (setB bx s (t :: (bx s).dropWhile (deadM c ms))) ∧ Started c S.m m' x t s ((gn : Int) + 1) ((S.m 0 : Int) + ticks) user ∧
      (∀ j, j ≠ 1 → j ≠ 2 → j ≠ c.nodesAt + 4 * x → j ≠ c.nodesAt + 4 * x + 2 → j ≠ c.ticketsAt + 3 * t → j ≠ c.ticketsAt + 3 * t + 1 → ms j = S.m j) ∧ ms (c.nodesAt + 4 * x) = stateWord ((gn : Int) + 1) ((S.m 0 : Int) + ticks) 1 := by
  have hsz := hok.size_le
  have hxn : x < c.nodes := hs.nlt x (List.mem_cons_self ..)
  have htn : t < c.tickets := hs.tlt t (List.mem_cons_self ..)
  have n9 := hok.nodesAt_le
  have n2 := hok.n2
  have t2 := hok.t2
  have hl := nlk_lt hxn
  have htl := tlk_lt htn
  have hts : c.ticketsAt ≤ c.size := by unfold Cf.size Cf.connsAt; omega
  have hnt := nodes_tickets c
  have hs1 := hs.popNode hok
  have e1 : ∀ j, j ≠ 1 → upd S.m 1 (turned (S.m 1) ((S.m (nlk c x) : Int) - 1)) j = S.m j := fun j hj => upd_other _ _ hj
  have hnode := fun n => start_node (wk := wk) (k := k) (R0 := R0) h hn hok hx hf hs (n + 7)
  generalize hm1 : upd S.m 1 (turned (S.m 1) ((S.m (nlk c x) : Int) - 1)) = m1 at *
  have hs2 := hs1.popTicket hok
  have hle := hs1.tickets.2.head_le (n := c.tickets) fun y hy => hs1.tlt y (List.mem_cons_of_mem _ hy)
  have e2 : ∀ j, j ≠ 2 → upd m1 2 (turned (m1 2) ((m1 (tlk c t) : Int) - 1)) j = m1 j := fun j hj => upd_other _ _ hj
  have hpop := fun n => it_pop (R := prApp c R0) (cf := c) (c := .ret (.st4 wk shard user ((S.m 0 : Int) + ticks) x ((gn : Int) + 1) k)) (S := S.w 5 m1) (st := .tickets) (f := t) (l := tlk c t) (n := n) (by show 2 < S.n; omega) hs1.tickets.1 (ticketLink_at c t htn) (by show tlk c t < S.n; omega) (by show m1 (tlk c t) ≤ _; omega)
  simp only [St.w_w, St.w_m, Stk.headN] at hpop
  generalize hm2 : upd m1 2 (turned (m1 2) ((m1 (tlk c t) : Int) - 1)) = m2 at *
  have hgl : gn < 4294967296 := by rw [← hgn]; exact Nat.mod_lt _ (by decide)
  have hg' : ¬ part (S.m (c.nodesAt + 4 * x)) 32 32 = 4294967295 := by rw [hgn]; exact hg
  have hxt : c.nodesAt + 4 * x + 3 < c.ticketsAt := hl.1
  have hs3 : Shop c (armM c m2 x t ((gn : Int) + 1) ((S.m 0 : Int) + ticks) user) fn ft bx := hs2.arm hok hxn (fun s' hs' => hs1.tb s' hs' t (List.mem_cons_self ..))
  have hrun : ∀ n, iter c (prApp c R0) (n + 12) (some (startK c wk ticks shard user k)) S = iter c (prApp c R0) n (some (putK c s t (.st9 x ((gn : Int) + 1) k))) ((S.note (startPoint wk x ((gn : Int) + 1) ((S.m 0 : Int) + ticks) 0)).w 12 (armM c m2 x t ((gn : Int) + 1) ((S.m 0 : Int) + ticks) user)) := by
    intro n
    rw [show n + 12 = (n + 7) + 5 from rfl, hnode, st3_yes' _ _ _ _ hg', iterR_some, hgn, show n + 7 = (n + 4) + 3 from rfl, hpop, app_ret, st4_yes', iterR_some, show n + 4 = (n + 2) + 2 from rfl,
      it_write (k := c.ticketsAt + 3 * t) (t0 := c.ticketsAt + 3 * t + 1) (ticket_at c t htn 0) (ticket_at c t htn 1) (by show _ < S.n; unfold tlk at htl; omega) (by show _ < S.n; unfold tlk at htl; omega), app_ret, st6_u, iterR_some,
      show c.user (x : Int) = ((c.nodesAt + 4 * x + 2 : Nat) : Int) from node_at c x hxn 2, it_store (by show _ < S.n; omega), app_ret, st7_u, iterR_some, state_at c x hxn, it_store (by show _ < S.n; omega), app_ret, st8_u, iterR_some, hsh]
    simp only [St.w_w, St.w_m, St.w_note, St.note_m]
    rfl
  have hms := @armM_state c m2 x t ((gn : Int) + 1) ((S.m 0 : Int) + ticks) user
  have hmu := @armM_user c m2 x t ((gn : Int) + 1) ((S.m 0 : Int) + ticks) user
  have hmk := @armM_key c m2 x t ((gn : Int) + 1) ((S.m 0 : Int) + ticks) user hxt
  have hmt := @armM_time c m2 x t ((gn : Int) + 1) ((S.m 0 : Int) + ticks) user hxt
  have f3 := fun j a b d e => @armM_rest c m2 x t ((gn : Int) + 1) ((S.m 0 : Int) + ticks) user j a b d e
  generalize armM c m2 x t ((gn : Int) + 1) ((S.m 0 : Int) + ticks) user = m3 at *
  obtain ⟨d, m', hi, hd, hsp, hfr⟩ := put_alone (R0 := R0) hok hsw htn (fn := fn) (bx s) (S := (S.note (startPoint wk x ((gn : Int) + 1) ((S.m 0 : Int) + ticks) 0)).w 12 m3) (ft := ft) (bx := bx) rfl hn hs3 (List.nodup_cons.1 hs1.tnd).1 (fun s' hs' => hs1.tb s' hs' t (List.mem_cons_self ..)) (by
    show part (m3 _) 0 16 < _
    rw [hmk]
    have := (key_parts3 (gn + 1) 0 x (by omega) (by omega) (by omega)).2.2
    rw [Int.natCast_add] at this
    have e : part (keyWord ((gn : Int) + 1) 0 x) 0 16 = x := this
    rw [e]; exact hxn)
  have hib := inb_bd hsw
  refine ⟨12 + d, m', m3, ?_, ?_, by omega, hsp, ⟨?_, ?_, ?_, ?_, ?_⟩, ?_, hms⟩
  · intro n
    rw [show n + (12 + d) = (n + d) + 12 by omega, hrun, hi, st9_u]
    simp only [St.w_w, St.w_note]
  · have hd' : d ≤ 8 * ((bx s).takeWhile (deadM c m3)).length + 5 := hd
    omega
  · exact (hfr _ (by omega) (by omega) (fun y hy => by have := tlk_lt hy; omega)).trans hms
  · exact (hfr _ (by omega) (by omega) (fun y hy => by have := tlk_lt hy; omega)).trans hmu
  · exact (hfr _ (by omega) (by omega) (fun y hy => by unfold tlk; omega)).trans hmk
  · exact (hfr _ (by omega) (by omega) (fun y hy => by unfold tlk; omega)).trans hmt
  · intro j j1 j2 j3 j4 j5 j6 j7 j8
    rw [hfr j j3 j2 j8]
    show m3 j = S.m j
    rw [f3 j j6 j7 j5 j4, e2 j j2, e1 j j1]
  · intro j j1 j2 j4 j5 j6 j7
    rw [f3 j j6 j7 j5 j4, e2 j j2, e1 j j1]
end
end Go.Proofs.YtgemjjpmoejgdaaGreat
/- A Cancel, a Rearm, a Migrate that is done alone. -/
namespace Go.Proofs.YtgemjjpmoejgdaaGreat
open Go.RowKit
set_option maxRecDepth 100000
set_option linter.unusedVariables false

/-- A ticket's key and time are written. -/
def wrM (c : Cf) (m : Nat → Nat) (t kw tm : Nat) : Nat → Nat := upd (upd m (c.ticketsAt + 3 * t) kw) (c.ticketsAt + 3 * t + 1) tm
theorem wrM_rest {c : Cf} {m : Nat → Nat} {t kw tm : Nat} (j : Nat) (a : j ≠ c.ticketsAt + 3 * t) (b : j ≠ c.ticketsAt + 3 * t + 1) : wrM c m t kw tm j = m j := by unfold wrM; rw [upd_other _ _ b, upd_other _ _ a]
theorem Shop.write {c : Cf} {m : Nat → Nat} {fn ft : List Nat} {bx : Nat → List Nat} {t kw tm : Nat} (hok : c.Ok) (h : Shop c m fn ft bx) (ht : ∀ s, s < c.workers → t ∉ bx s) : Shop c (wrM c m t kw tm) fn ft bx := by
  have n9 := hok.nodesAt_le
  have hnt := nodes_tickets c
  refine h.same ?_ ?_ ?_ ?_ n9.1
  · intro j _ hj
    exact wrM_rest j (by omega) (by omega)
  · intro y hy
    have := nlk_lt hy
    exact wrM_rest _ (by omega) (by omega)
  · intro y hy
    exact wrM_rest _ (by unfold tlk; omega) (by unfold tlk; omega)
  · intro s' hs' y hy
    have hne : y ≠ t := fun e => ht s' hs' (e ▸ hy)
    exact wrM_rest _ (by omega) (by omega)
/-- A node's cell that is no link is turned. -/
theorem Shop.node {c : Cf} {m : Nat → Nat} {fn ft : List Nat} {bx : Nat → List Nat} {x j v : Nat} (hok : c.Ok) (h : Shop c m fn ft bx) (hx : x < c.nodes) (hj : j < 3) : Shop c (upd m (c.nodesAt + 4 * x + j) v) fn ft bx := by
  have n9 := hok.nodesAt_le
  have hnt : c.ticketsAt = c.nodesAt + 4 * c.nodes := rfl
  refine h.same ?_ ?_ ?_ ?_ n9.1
  · intro i _ hi
    exact upd_other _ _ (by omega)
  · intro y hy
    exact upd_other _ _ (by unfold nlk; omega)
  · intro y hy
    exact upd_other _ _ (by unfold tlk; omega)
  · intro s' hs' y hy
    exact upd_other _ _ (by omega)

section
variable {ρ : Type} {R0 : ρ → Arg → St → St × Option (K (PR ρ))} {c : Cf} {k : PR ρ} {S : St} {fn ft : List Nat} {bx : Nat → List Nat}
end
end Go.Proofs.YtgemjjpmoejgdaaGreat
