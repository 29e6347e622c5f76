/- The document's shop, and that the cells hold it: what deeds that are done alone turn. -/
import Derived.Test.YtgemjjpmoejgdaaGreatJoini
namespace Go.Proofs.YtgemjjpmoejgdaaGreat
open Go.RowKit
set_option maxRecDepth 100000
set_option linter.unusedVariables false

structure NodeR where
  gen : Nat
  time : Nat
  status : Nat
  user : Nat
  hgen : Nat
  hver : Nat
  hshard : Nat
  deriving Inhabited
structure TickR where
  node : Nat
  gen : Nat
  ver : Nat
  due : Nat
structure ShopR where
  clock : Nat
  free : List Nat
  tickets : Nat
  nodes : List NodeR
  boxes : List (List TickR)
def dueR (slack deadline : Nat) : Nat := toU (upI deadline slack)
def deadR (N : List NodeR) (t : TickR) : Bool := !((N[t.node]?).any fun n => decide (n.status = 1 ∧ n.gen = t.gen))
/-- A ticket is laid into a box: the dead ones that are first are freed. -/
def layR (R : ShopR) (s : Nat) (t : TickR) : ShopR :=
  { R with tickets := R.tickets + ((R.boxes.getD s []).takeWhile (deadR R.nodes)).length, boxes := R.boxes.set s (t :: (R.boxes.getD s []).dropWhile (deadR R.nodes)) }
def shardR (R : ShopR) (s : Int) : Prop := 0 ≤ s ∧ s < R.boxes.length
instance (R : ShopR) (s : Int) : Decidable (shardR R s) := by unfold shardR; infer_instance
/-- A Start: the shop; the node, the generation, the error. -/
def startR (slack : Nat) (R : ShopR) (ticks shard user : Int) : ShopR × Int × Int × Int :=
  if ticks < 0 ∨ user < 0 ∨ ¬ shardR R shard then (R, 0, 0, 1)
  else if 1073741823 - (R.clock : Int) < ticks then (R, 0, 0, 2)
  else match R.free with
    | [] => (R, 0, 0, 3)
    | x :: fs =>
      if (R.nodes.getD x default).gen = 4294967295 then ({ R with free := fs }, 0, 0, 5)
      else if R.tickets = 0 then (R, 0, 0, 3)
      else (layR { R with free := fs, tickets := R.tickets - 1, nodes := R.nodes.set x { R.nodes.getD x default with gen := (R.nodes.getD x default).gen + 1, time := R.clock + ticks.toNat, status := 1, user := user.toNat } } shard.toNat
          ⟨x, (R.nodes.getD x default).gen + 1, 0, dueR slack (R.clock + ticks.toNat)⟩, (x : Int), ((R.nodes.getD x default).gen + 1 : Nat), 0)
def nodeR (R : ShopR) (n : Int) : Prop := 0 ≤ n ∧ n < R.nodes.length
instance (R : ShopR) (s : Int) : Decidable (nodeR R s) := by unfold nodeR; infer_instance
def armedR (R : ShopR) (n g : Int) : Bool := decide (nodeR R n ∧ (R.nodes.getD n.toNat default).status = 1 ∧ ((R.nodes.getD n.toNat default).gen : Int) = g)
/-- A node's cells hold it. -/
structure NodeOk (c : Cf) (m : Nat → Nat) (x : Nat) (n : NodeR) : Prop where
  gen : part (m (c.nodesAt + 4 * x)) 32 32 = n.gen
  status : part (m (c.nodesAt + 4 * x)) 0 2 = n.status
  time : n.status = 1 → part (m (c.nodesAt + 4 * x)) 2 30 = n.time
  user : n.status = 1 → m (c.nodesAt + 4 * x + 2) = n.user
  hgen : part (m (c.nodesAt + 4 * x + 1)) 32 32 = n.hgen
  hver : part (m (c.nodesAt + 4 * x + 1)) 16 16 = n.hver
  hshard : part (m (c.nodesAt + 4 * x + 1)) 0 16 = n.hshard
/-- What a ticket's cells hold. -/
def tickOf (c : Cf) (m : Nat → Nat) (t : Nat) : TickR := ⟨part (m (c.ticketsAt + 3 * t)) 0 16, part (m (c.ticketsAt + 3 * t)) 32 32, part (m (c.ticketsAt + 3 * t)) 16 16, m (c.ticketsAt + 3 * t + 1)⟩
/-- The cells hold the shop. -/
structure RelR (c : Cf) (m : Nat → Nat) (R : ShopR) (fn ft : List Nat) (bx : Nat → List Nat) : Prop where
  shop : Shop c m fn ft bx
  clock : m 0 = R.clock
  cl : R.clock ≤ 1073741823
  free : R.free = fn
  tickets : R.tickets = ft.length
  nl : R.nodes.length = c.nodes
  node : ∀ x n, R.nodes[x]? = some n → NodeOk c m x n
  bl : R.boxes.length = c.workers
  box : ∀ s, s < c.workers → R.boxes.getD s [] = (bx s).map (tickOf c m)
  idle : ∀ x ∈ fn, ¬ part (m (c.nodesAt + 4 * x)) 0 2 = 1

theorem takeWhile_map' {α β : Type} (f : α → β) (p : β → Bool) : ∀ l : List α, (l.map f).takeWhile p = (l.takeWhile fun x => p (f x)).map f
  | [] => rfl
  | x :: l => by
    rw [List.map_cons, List.takeWhile_cons, List.takeWhile_cons]
    cases p (f x)
    · rfl
    · rw [if_pos rfl, if_pos rfl, List.map_cons, takeWhile_map' f p l]
theorem dropWhile_map' {α β : Type} (f : α → β) (p : β → Bool) : ∀ l : List α, (l.map f).dropWhile p = (l.dropWhile fun x => p (f x)).map f
  | [] => rfl
  | x :: l => by
    rw [List.map_cons, List.dropWhile_cons, List.dropWhile_cons]
    cases p (f x)
    · rfl
    · rw [if_pos rfl, if_pos rfl, dropWhile_map' f p l]
theorem takeWhile_congr' {α : Type} {p q : α → Bool} : ∀ {l : List α}, (∀ x ∈ l, p x = q x) → l.takeWhile p = l.takeWhile q ∧ l.dropWhile p = l.dropWhile q
  | [], _ => ⟨rfl, rfl⟩
  | x :: l, h => by
    obtain ⟨h1, h2⟩ := takeWhile_congr' (l := l) fun y hy => h y (List.mem_cons_of_mem _ hy)
    rw [List.takeWhile_cons, List.takeWhile_cons, List.dropWhile_cons, List.dropWhile_cons, h x (List.mem_cons_self ..), h1, h2]
    exact ⟨rfl, rfl⟩
theorem nodup_len : ∀ (n : Nat) (xs : List Nat), xs.Nodup → (∀ x ∈ xs, x < n) → xs.length ≤ n := by
  intro n
  induction n with
  | zero =>
    intro xs _ h
    cases xs with
    | nil => exact Nat.le_refl _
    | cons x xs => have := h x (List.mem_cons_self ..); omega
  | succ n ih =>
    intro xs hn h
    have h1 := ih (xs.erase n) (hn.erase n) fun x hx => by
      have h2 := (List.Nodup.mem_erase_iff hn).1 hx
      have := h x h2.2
      omega
    have h3 := List.length_erase (a := n) (l := xs)
    split at h3 <;> omega
theorem dead_alive {c : Cf} {m : Nat → Nat} {N : List NodeR} (hl : N.length = c.nodes) (hN : ∀ x n, N[x]? = some n → NodeOk c m x n) {t : Nat} (ht : part (m (c.ticketsAt + 3 * t)) 0 16 < c.nodes) : deadM c m t = deadR N (tickOf c m t) := by
  have hlt : part (m (c.ticketsAt + 3 * t)) 0 16 < N.length := by rw [hl]; exact ht
  have he : N[part (m (c.ticketsAt + 3 * t)) 0 16]? = some N[part (m (c.ticketsAt + 3 * t)) 0 16] := List.getElem?_eq_getElem hlt
  have hk := hN _ _ he
  unfold deadM deadR tickOf
  dsimp only
  rw [he, Option.any_some, ← hk.gen, ← hk.status]
  rw [← decide_not]
  refine decide_eq_decide.2 ?_
  constructor
  · rintro (h | h) ⟨h1, h2⟩
    · exact h h1
    · exact h (by rw [h2])
  · intro h
    by_cases h1 : part (m (c.nodesAt + 4 * part (m (c.ticketsAt + 3 * t)) 0 16)) 0 2 = 1
    · exact .inr fun q => h ⟨h1, by omega⟩
    · exact .inl h1
theorem getD_set_eq {α : Type} (l : List α) (s : Nat) (v d : α) (h : s < l.length) : (l.set s v).getD s d = v := by simp [h]
theorem getD_set_ne' {α : Type} (l : List α) {s s' : Nat} (v d : α) (h : s' ≠ s) : (l.set s v).getD s' d = l.getD s' d := by
  simp [Ne.symm h]
/-- A ticket is laid: what the cells hold behind it. -/
theorem lay_rel {c : Cf} {m m' ms : Nat → Nat} {R : ShopR} {fn ft fn' : List Nat} {bx : Nat → List Nat} {t s : Nat} {N' : List NodeR} {tick : TickR} (hr : RelR c m R fn (t :: ft) bx) (hs : s < c.workers)
    (hsp : Shop c m' fn' (((bx s).takeWhile (deadM c ms)).reverse ++ ft) (setB bx s (t :: (bx s).dropWhile (deadM c ms))))
    (hkey : ∀ x, x < c.tickets → x ≠ t → m' (c.ticketsAt + 3 * x) = m (c.ticketsAt + 3 * x) ∧ m' (c.ticketsAt + 3 * x + 1) = m (c.ticketsAt + 3 * x + 1) ∧ ms (c.ticketsAt + 3 * x) = m (c.ticketsAt + 3 * x))
    (hst : ∀ y, y < c.nodes → ms (c.nodesAt + 4 * y) = m' (c.nodesAt + 4 * y)) (h0 : m' 0 = m 0) (hN : N'.length = c.nodes) (hNok : ∀ x n, N'[x]? = some n → NodeOk c m' x n) (htk : tickOf c m' t = tick) (hidle : ∀ x ∈ fn', ¬ part (m' (c.nodesAt + 4 * x)) 0 2 = 1) :
    RelR c m' (layR { R with free := fn', tickets := R.tickets - 1, nodes := N' } s tick) fn' (((bx s).takeWhile (deadM c ms)).reverse ++ ft) (setB bx s (t :: (bx s).dropWhile (deadM c ms))) := by
  have htn : ∀ s', s' < c.workers → ∀ x ∈ bx s', x ≠ t := fun s' hs' x hx e => hr.shop.tb s' hs' t (List.mem_cons_self ..) (e ▸ hx)
  have htick : ∀ s', s' < c.workers → ∀ x ∈ bx s', tickOf c m' x = tickOf c m x := fun s' hs' x hx => by
    obtain ⟨a, b, _⟩ := hkey x (hr.shop.blt s' hs' x hx) (htn s' hs' x hx)
    unfold tickOf
    rw [a, b]
  have hcong := takeWhile_congr' (p := deadM c ms) (q := fun x => deadR N' (tickOf c m x)) (l := bx s) fun x hx => by
    obtain ⟨a, b, d⟩ := hkey x (hr.shop.blt s hs x hx) (htn s hs x hx)
    have hk := hr.shop.key s hs x hx
    have h1 := dead_alive (c := c) (m := m') (N := N') hN hNok (t := x) (by rw [a]; exact hk)
    rw [htick s hs x hx] at h1
    rw [← h1]
    exact deadM_same (by rw [a, d]) (by rw [a]; exact hst _ hk)
  have hb := hr.box s hs
  have e1 : (R.boxes.getD s []).takeWhile (deadR N') = ((bx s).takeWhile (deadM c ms)).map (tickOf c m) := by rw [hb, takeWhile_map', hcong.1]
  have e2 : (R.boxes.getD s []).dropWhile (deadR N') = ((bx s).dropWhile (deadM c ms)).map (tickOf c m) := by rw [hb, dropWhile_map', hcong.2]
  refine ⟨hsp, h0.trans hr.clock, hr.cl, rfl, ?_, hN, hNok, ?_, ?_, hidle⟩
  · show R.tickets - 1 + ((R.boxes.getD s []).takeWhile (deadR N')).length = _
    rw [e1, hr.tickets]
    simp
    omega
  · show (R.boxes.set s _).length = _
    rw [List.length_set]; exact hr.bl
  · intro s' hs'
    show (R.boxes.set s (tick :: (R.boxes.getD s []).dropWhile (deadR N'))).getD s' [] = _
    by_cases e : s' = s
    · subst e
      rw [getD_set_eq _ _ _ _ (by rw [hr.bl]; exact hs), setB_same, e2, List.map_cons, htk]
      congr 1
      refine List.map_congr_left fun x hx => ?_
      exact (htick s' hs x ((List.dropWhile_sublist _).subset hx)).symm
    · rw [getD_set_ne' _ _ _ e, setB_other _ _ e, hr.box s' hs']
      refine List.map_congr_left fun x hx => ?_
      exact (htick s' hs' x hx).symm
theorem NodeOk.same {c : Cf} {m m' : Nat → Nat} {x : Nat} {n : NodeR} (h : NodeOk c m x n) (h0 : m' (c.nodesAt + 4 * x) = m (c.nodesAt + 4 * x)) (h1 : m' (c.nodesAt + 4 * x + 1) = m (c.nodesAt + 4 * x + 1)) (h2 : m' (c.nodesAt + 4 * x + 2) = m (c.nodesAt + 4 * x + 2)) : NodeOk c m' x n :=
  ⟨by rw [h0]; exact h.gen, by rw [h0]; exact h.status, fun q => by rw [h0]; exact h.time q, fun q => by rw [h2]; exact h.user q, by rw [h1]; exact h.hgen, by rw [h1]; exact h.hver, by rw [h1]; exact h.hshard⟩
theorem toU_nat {x : Int} (h0 : 0 ≤ x) (h1 : x < 18446744073709551616) : toU x = x.toNat := by unfold toU; omega
section
variable {ρ : Type} {R0 : ρ → Arg → St → St × Option (K (PR ρ))} {c : Cf} {k : PR ρ} {S : St} {fn ft : List Nat} {bx : Nat → List Nat} {R : ShopR}
/-- What code that is done alone comes to: so many steps; then the continuation is handed what is told; the cells hold another shop. -/
structure Alone (R0 : ρ → Arg → St → St × Option (K (PR ρ))) (c : Cf) (κ : K (PR ρ)) (k : PR ρ) (S : St) (a : Arg) (R' : ShopR) : Prop where
  ex : ∃ d q m' e fn' ft' bx', (∀ n, iter c (prApp c R0) (n + d) (some κ) S = iterR c (prApp c R0) n (prApp c R0 k a ((S.w q m').note e))) ∧ 1 ≤ d ∧ d ≤ 8 * c.tickets + 17 ∧ q ≤ d ∧ RelR c m' R' fn' ft' bx'
theorem RelR.clock' (hr : RelR c S.m R fn ft bx) : S.m 0 ≤ 1073741823 := by rw [hr.clock]; exact hr.cl
theorem RelR.nodeAt (hr : RelR c S.m R fn ft bx) {x : Nat} (hx : x < c.nodes) : NodeOk c S.m x (R.nodes.getD x default) := by
  have hl : x < R.nodes.length := by rw [hr.nl]; exact hx
  have e : R.nodes[x]? = some (R.nodes.getD x default) := by simp [hl]
  exact hr.node x _ e
theorem tw_le (h : Shop c S.m fn ft bx) {s : Nat} (hs : s < c.workers) (p : Nat → Bool) : ((bx s).takeWhile p).length ≤ c.tickets :=
  Nat.le_trans (List.takeWhile_sublist p).length_le (nodup_len c.tickets (bx s) (h.bnd s hs) (h.blt s hs))
theorem upI_bd {d slack : Int} : 0 ≤ upI d slack ∧ upI d slack < 18446744073709551616 := by
  have h1 : 0 ≤ clockI d ∧ clockI d ≤ 1073741823 := by unfold clockI; omega
  have h2 : 0 ≤ clockI slack ∧ clockI slack ≤ 1073741823 := by unfold clockI; omega
  unfold upI
  have hb' : 0 < clockI slack + 1 ∧ clockI slack + 1 ≤ 1073741824 := by omega
  generalize clockI d = a at *
  generalize clockI slack + 1 = b at *
  have hb : 0 < b := hb'.1
  have hq : 0 ≤ (a + b - 1) / b := Int.ediv_nonneg (by omega) (by omega)
  refine ⟨Int.mul_nonneg hq (by omega), ?_⟩
  have := Int.ediv_mul_le (a + b - 1) (b := b) (by omega)
  omega
theorem shard_not {s : Int} (hr : RelR c S.m R fn ft bx) : ¬ shardR R s ↔ (s < 0 ∨ (c.workers : Int) ≤ s) := by
  unfold shardR
  rw [hr.bl]
  omega
theorem start_rel {wk ticks shard user : Int} (hok : c.Ok) (hn : S.n = c.size) (hr : RelR c S.m R fn ft bx) (hu : user < 9223372036854775808) :
    Alone R0 c (startK c wk ticks shard user k) k S (.he (startR c.slack R ticks shard user).2.1 (startR c.slack R ticks shard user).2.2.1 (startR c.slack R ticks shard user).2.2.2) (startR c.slack R ticks shard user).1 := by
  have hx := hr.clock'
  have hsz := hok.size_le
  unfold startR
  by_cases h : ticks < 0 ∨ user < 0 ∨ ¬ shardR R shard
  · rw [if_pos h]
    have h' : ticks < 0 ∨ user < 0 ∨ shard < 0 ∨ (c.workers : Int) ≤ shard := by rw [shard_not hr] at h; exact h
    exact ⟨1, 0, S.m, startPoint wk 0 0 0 1, fn, ft, bx, fun n => start_arg h' n, Nat.le_refl _, by omega, by omega, hr⟩
  rw [if_neg h]
  have h' : ¬ (ticks < 0 ∨ user < 0 ∨ shard < 0 ∨ (c.workers : Int) ≤ shard) := by rw [shard_not hr] at h; exact h
  by_cases hf : 1073741823 - (R.clock : Int) < ticks
  · rw [if_pos hf]
    exact ⟨1, 1, S.m, startPoint wk 0 0 0 2, fn, ft, bx, fun n => start_range h' (by omega) hx (by rw [hr.clock]; exact hf) n, Nat.le_refl _, by omega, by omega, hr⟩
  rw [if_neg hf]
  have hf' : ¬ 1073741823 - (S.m 0 : Int) < ticks := by rw [hr.clock]; exact hf
  have hfree := hr.free
  cases fn with
  | nil =>
    rw [hfree]
    exact ⟨2, 2, S.m, startPoint wk 0 0 0 3, [], ft, bx, fun n => start_empty h' hn hok hx hf' hr.shop n, by omega, by omega, by omega, hr⟩
  | cons x fs =>
    rw [hfree]
    dsimp only
    have hxn : x < c.nodes := hr.shop.nlt x (List.mem_cons_self ..)
    have hno := hr.nodeAt hxn
    have n9 := hok.nodesAt_le
    have hl := nlk_lt hxn
    have hta : c.ticketsAt = c.nodesAt + 4 * c.nodes := rfl
    by_cases hg : (R.nodes.getD x default).gen = 4294967295
    · rw [if_pos hg]
      refine ⟨5, 5, _, startPoint wk 0 0 0 5, fs, ft, bx, fun n => start_gone h' hn hok hx hf' hr.shop (by rw [hno.gen]; exact hg) n, by omega, by omega, by omega, ?_⟩
      have e1 : ∀ j, j ≠ 1 → upd S.m 1 (turned (S.m 1) ((S.m (nlk c x) : Int) - 1)) j = S.m j := fun j hj => upd_other _ _ hj
      have hs1 := hr.shop.popNode hok
      generalize upd S.m 1 (turned (S.m 1) ((S.m (nlk c x) : Int) - 1)) = m1 at *
      refine ⟨hs1, (e1 0 (by omega)).trans hr.clock, hr.cl, rfl, hr.tickets, hr.nl, fun y n hy => ?_, hr.bl, fun s hs => ?_, fun y hy => ?_⟩
      · exact (hr.node y n hy).same (e1 _ (by omega)) (e1 _ (by omega)) (e1 _ (by omega))
      · rw [hr.box s hs]
        refine List.map_congr_left fun y hy => ?_
        unfold tickOf
        rw [e1 _ (by omega), e1 _ (by omega)]
      · rw [e1 _ (by omega)]; exact hr.idle y (List.mem_cons_of_mem _ hy)
    rw [if_neg hg]
    have htk := hr.tickets
    cases ft with
    | nil =>
      have htk0 : R.tickets = 0 := htk
      rw [if_pos htk0]
      obtain ⟨m', hi, hs', hm⟩ := start_full (R0 := R0) (wk := wk) (k := k) h' hn hok hx hf' hr.shop (by rw [hno.gen]; exact hg)
      refine ⟨9, 9, m', startPoint wk 0 0 0 3, x :: fs, [], bx, hi, by omega, by omega, by omega, ?_⟩
      have e1 : ∀ y j, j < 3 → m' (c.nodesAt + 4 * y + j) = S.m (c.nodesAt + 4 * y + j) := fun y j hj => hm _ (by omega) (by unfold nlk; omega)
      have e0 : ∀ y, m' (c.nodesAt + 4 * y) = S.m (c.nodesAt + 4 * y) := fun y => e1 y 0 (by omega)
      refine ⟨hs', (hm 0 (by omega) (by unfold nlk; omega)).trans hr.clock, hr.cl, hfree, hr.tickets, hr.nl, fun y n hy => ?_, hr.bl, fun s hs => ?_, fun y hy => ?_⟩
      · exact (hr.node y n hy).same (e0 y) (e1 y 1 (by omega)) (e1 y 2 (by omega))
      · rw [hr.box s hs]
        refine List.map_congr_left fun y hy => ?_
        have := hr.shop.blt s hs y hy
        unfold tickOf
        rw [hm _ (by omega) (by omega), hm _ (by omega) (by omega)]
      · rw [e0]; exact hr.idle y hy
    | cons t ft =>
      have htk0 : ¬ R.tickets = 0 := by rw [htk]; simp
      rw [if_neg htk0]
      have hsl : ∃ s : Nat, shard = (s : Int) ∧ s < c.workers := ⟨shard.toNat, by omega, by omega⟩
      obtain ⟨s, rfl, hsw⟩ := hsl
      obtain ⟨d, m', ms, hi, hd, hd1, hsp, hst, hms, hmst⟩ := start_ok (R0 := R0) (wk := wk) (k := k) rfl hsw h' hn hok hx hf' hr.shop hno.gen hg
      have htn : t < c.tickets := hr.shop.tlt t (List.mem_cons_self ..)
      have hib := inb_bd hsw
      have htl : ∀ y, y < c.tickets → c.ticketsAt ≤ tlk c y := fun y hy => (tlk_lt hy).2
      have hle := tw_le hr.shop hsw (deadM c ms)
      have hgl : (R.nodes.getD x default).gen < 4294967296 := by rw [← hno.gen]; exact Nat.mod_lt _ (by decide)
      have hdl : (S.m 0 : Int) + ticks = ((R.clock + ticks.toNat : Nat) : Int) := by rw [hr.clock]; omega
      have hgq : ((R.nodes.getD x default).gen : Int) + 1 = (((R.nodes.getD x default).gen + 1 : Nat) : Int) := by omega
      rw [hdl, hgq] at hi
      rw [hdl, hgq] at hst hmst
      have hcl := hr.cl
      have hsp3 := state_parts3 ((R.nodes.getD x default).gen + 1) (R.clock + ticks.toNat) 1 (by omega) (by omega) (by omega)
      have hkp3 := key_parts3 ((R.nodes.getD x default).gen + 1) 0 x (by omega) (by omega) (by have := hok.n2; omega)
      have rest : ∀ y j, y < c.nodes → j < 3 → (y = x → j = 1) → m' (c.nodesAt + 4 * y + j) = S.m (c.nodesAt + 4 * y + j) := fun y j hy hj hne =>
        hst.rest _ (by omega) (by omega) (by omega) (by omega) (by omega) (by unfold Cf.ticketsAt; omega) (by unfold Cf.ticketsAt; omega) fun z hz => by have := htl z hz; unfold Cf.ticketsAt at this; omega
      have rest0 : ∀ y, y < c.nodes → y ≠ x → m' (c.nodesAt + 4 * y) = S.m (c.nodesAt + 4 * y) := fun y hy hne => rest y 0 hy (by omega) fun e => absurd e hne
      refine ⟨d, d, m', startPoint wk x (((R.nodes.getD x default).gen + 1 : Nat) : Int) ((R.clock + ticks.toNat : Nat) : Int) 0, fs, _, _, ?_, hd1, by omega, Nat.le_refl _, lay_rel hr hsw hsp ?_ ?_ ?_ ?_ ?_ ?_ ?_⟩
      · exact hi
      · intro y hy hne
        refine ⟨hst.rest _ (by omega) (by omega) (by omega) (by omega) (by omega) (by omega) (by omega) (fun z hz => by unfold tlk; omega), hst.rest _ (by omega) (by omega) (by omega) (by omega) (by omega) (by omega) (by omega) (fun z hz => by unfold tlk; omega), hms _ (by omega) (by omega) (by omega) (by omega) (by omega) (by omega)⟩
      · intro y hy
        by_cases e : y = x
        · subst e; rw [hmst, hst.state]
        · rw [rest0 y hy e]
          exact hms _ (by omega) (by omega) (by omega) (by omega) (by unfold Cf.ticketsAt; omega) (by unfold Cf.ticketsAt; omega)
      · exact hst.rest 0 (by omega) (by omega) (by omega) (by omega) (by omega) (by omega) (by omega) fun z hz => by have := htl z hz; omega
      · rw [List.length_set]; exact hr.nl
      · intro y n hy
        have hyn : y < c.nodes := by
          have := (List.getElem?_eq_some_iff.1 hy).1
          rw [List.length_set, hr.nl] at this
          exact this
        by_cases e : y = x
        · subst e
          have hl' : y < R.nodes.length := by rw [hr.nl]; exact hyn
          rw [List.getElem?_set_self hl'] at hy
          obtain rfl := Option.some.inj hy
          refine ⟨?_, ?_, fun _ => ?_, fun _ => ?_, ?_, ?_, ?_⟩
          · rw [hst.state]; exact hsp3.1
          · rw [hst.state]; exact hsp3.2.2
          · rw [hst.state]; exact hsp3.2.1
          · rw [hst.user]; exact toU_nat (by omega) (by omega)
          · rw [rest y 1 hyn (by omega) fun _ => rfl]; exact hno.hgen
          · rw [rest y 1 hyn (by omega) fun _ => rfl]; exact hno.hver
          · rw [rest y 1 hyn (by omega) fun _ => rfl]; exact hno.hshard
        · rw [List.getElem?_set_ne (Ne.symm e)] at hy
          exact (hr.node y n hy).same (rest0 y hyn e) (rest y 1 hyn (by omega) fun _ => rfl) (rest y 2 hyn (by omega) fun q => absurd q e)
      · unfold tickOf
        rw [hst.key, hst.time]
        have k1 := hkp3.1
        have k2 := hkp3.2.1
        have k3 := hkp3.2.2
        rw [show ((0 : Nat) : Int) = 0 from rfl] at k1 k2 k3
        rw [k1, k2, k3]
        rfl
      · intro y hy
        have hyx : y ≠ x := fun e => (List.nodup_cons.1 hr.shop.nnd).1 (e ▸ hy)
        rw [rest0 y (hr.shop.nlt y (List.mem_cons_of_mem _ hy)) hyx]
        exact hr.idle y (List.mem_cons_of_mem _ hy)
theorem RelR.armed (hr : RelR c S.m R fn ft bx) {n g : Int} (hn : nodeR R n) : ∃ x : Nat, n = (x : Int) ∧ x < c.nodes ∧ armedR R n g = armedW (S.m (c.nodesAt + 4 * x)) g ∧ NodeOk c S.m x (R.nodes.getD x default) := by
  obtain ⟨h0, h1⟩ := hn
  have hl := hr.nl
  obtain ⟨x, rfl⟩ : ∃ x : Nat, n = (x : Int) := ⟨n.toNat, by omega⟩
  have hx : x < c.nodes := by omega
  have hno := hr.nodeAt hx
  refine ⟨x, rfl, hx, ?_, hno⟩
  unfold armedR armedW
  rw [hno.gen, hno.status, Int.toNat_natCast]
  exact decide_eq_decide.2 ⟨fun h => h.2, fun h => ⟨⟨h0, h1⟩, h⟩⟩
theorem state_none (c : Cf) (n : Int) (h : ¬ (0 ≤ n ∧ n < (c.nodes : Int))) : c.state n = -1 := by
  unfold Cf.state Cf.node
  rw [among_no h]
  unfold within
  rw [if_pos (by omega)]
end
end Go.Proofs.YtgemjjpmoejgdaaGreat
/- Pop, as steps. -/
namespace Go.Proofs.YtgemjjpmoejgdaaGreat
open Go.RowKit
set_option maxRecDepth 100000
set_option linter.unusedVariables false

/-- A stack's link is a function of the plan. -/
structure StkOk (E : G) (f : FuncId) (lk : Int → Int) : Prop where
  en : EntersF f
  ln : ∀ (i : Int) (W : World), PlanAt W E.p E.cf → Calls Tryz.prog f #[.pointer (some ⟨E.p, 0, none⟩), .int .i64 i] W (Qt (.int .i64 (lk i)) W)
structure StkAt (w : World) (b : Nat) (E : G) (f : FuncId) (head : Int) : Prop where
  c0 : w.cell? ⟨b, 0, none⟩ = some (.pointer (some ⟨E.a, 0, none⟩))
  c1 : w.cell? ⟨b, 1, none⟩ = some (.int .i64 head)
  c2 : w.cell? ⟨b, 2, none⟩ = some (.func (.func f) #[.pointer (some ⟨E.p, 0, none⟩)] #[])
theorem StkAt.ext {t : Nat} {L L' : Lab} {w w' : World} {b : Nat} {E : G} {f : FuncId} {head : Int} (h : StkAt w b E f head) (hx : Ext t L w L' w') (l : L b = 0) : StkAt w' b E f head := ⟨hx.cell0 h.c0 l, hx.cell0 h.c1 l, hx.cell0 h.c2 l⟩
theorem StkAt.below {w w' : World} {b : Nat} {E : G} {f : FuncId} {head : Int} (h : StkAt w b E f head) (hb : Below w.heap.size w w') : StkAt w' b E f head := ⟨below_cell hb h.c0, below_cell hb h.c1, below_cell hb h.c2⟩
def stkVal (E : G) (f : FuncId) (head : Int) : Value := .agg #[.pointer (some ⟨E.a, 0, none⟩), .int .i64 head, .func (.func f) #[.pointer (some ⟨E.p, 0, none⟩)] #[]]

section
variable {ρ : Type} {R : ρ → Arg → St → St × Option (K ρ)} {E : G} {t : Nat}
theorem enters_pop1 : EntersF 101 := enters_of Tryz.func101 (by kernel_rfl) rfl
theorem enters_pop11 : EntersF 103 := enters_of Tryz.func103 (by kernel_rfl) rfl
theorem enters_pop111 : EntersF 106 := enters_of Tryz.func106 (by kernel_rfl) rfl

set_option maxHeartbeats 1000000 in
theorem popC_con {n : Nat} {st : Stk} {f : FuncId} {first : Int} {vk : Value} {c : C ρ} {L : Lab} {w : World} {bs bt bf : Nat}
    (hs : StkAt w bs E f st.head) (ht : w.cell? ⟨bt, 0, none⟩ = some vk) (hf : w.cell? ⟨bf, 0, none⟩ = some (.int .i64 first)) (ls : L bs = 0) (lt : L bt = 0) (lf : L bf = 0) (hfb : 0 ≤ first ∧ first ≤ 4294967294)
    (hk : ConSim E.cf R E t isPop n L w vk c)
    (ih : ∀ L' w' S, Ext t L w L' w' → Good E L' S w' → Calls Tryz.prog 25 #[stkVal E f st.head, vk] w' (Post E.cf R E t n L' w' (S, some (popK st c)))) :
    ConSim E.cf R E t isB n L w (.func (.func 106) #[] #[.pointer (some ⟨bs, 0, none⟩), .pointer (some ⟨bt, 0, none⟩), .pointer (some ⟨bf, 0, none⟩)]) (.popC st first c) := by
  refine ⟨_, _, rfl, enters_pop111, ?_⟩
  intro a L' w' S ha hx hg hbd
  cases a with
  | b ok =>
    obtain ⟨c0, c1, c2⟩ := hs.ext hx ls
    have q1 := hx.cell0 ht lt
    have q2 := hx.cell0 hf lf
    show Calls _ _ #[_, _, _, _] _ _
    cases ok with
    | false =>
      have hi := ih L' w' S hx hg
      unfold stkVal at hi
      have HI := Go.Lib.hid hi
      show Calls _ _ _ _ (Post E.cf R E t n L' w' (S, some (popK st c)))
      clear hi ih hk hx hg hbd ha
      generalize popK st c = kk at *
      go_enter Tryz.func106, Tryz.ntmps106
      go_wp2_with fail
      refine HI.out.mono ?_
      rintro e w2 ⟨v2, L2, rfl, hd2, hg2, hc2⟩
      go_wp2
      go_ret
      exact ⟨v2, L2, rfl, hd2, hg2, hc2⟩
    | true =>
      obtain ⟨g, cap, rfl, hgf, hk⟩ := hk
      have hgf' : ∀ (args : Array Value) (w : World), (callFunc g args).run Tryz.prog w = .ok (.enter g args) w := hgf
      have hk1 := hk (.pop first true) L' w' S ⟨by omega, by omega⟩ hx hg hbd
      have HK := Go.Lib.hid hk1
      show Calls _ _ _ _ (Post E.cf R E t n L' w' (app E.cf R c (.pop first true) S))
      clear hk1 hk ih hx hg hbd ha
      generalize app E.cf R c (.pop first true) S = rr at *
      go_enter Tryz.func106, Tryz.ntmps106
      go_wp2_with (go_at_fn g; refine HK.out.mono ?_; rintro e w2 ⟨v2, L2, rfl, hd2, hg2, hc2⟩)
      go_ret
      exact ⟨v2, L2, rfl, hd2, hg2, hc2⟩
  | _ => exact absurd ha (by simp [isB])

/-- Code at level 0 is any function. -/
theorem post_zero {L : Lab} {w w' : World} {v : Value} {r : St × Option (K ρ)} (hd : Did t L w L w') (hg : Good E L r.1 w') : Post E.cf R E t 0 L w r (.returned v) w' := ⟨v, L, rfl, hd, hg, trivial⟩
set_option maxHeartbeats 1000000 in
theorem cas_zero {i : Int} {old v : Nat} {g : FuncId} {rc cap : Array Value} {L : Lab} {w : World} {S : St} {o : Option (K ρ)} (hg : Good E L S w) :
    Calls Tryz.prog 104 #[.pointer (some ⟨E.a, 0, none⟩), .int .i64 i, .int .u64 old, .int .u64 v, .func (.func g) rc cap] w (Post E.cf R E t 0 L w (S, o)) := by
  go_enter Tryz.func104, Tryz.ntmps104
  go_wp2
  go_ret
  have hb := below_five (w := w) (.cells #[.pointer (some ⟨E.a, 0, none⟩)] 57) (.cells #[.int .i64 i] 3) (.cells #[.int .u64 old] 92) (.cells #[.int .u64 v] 92) (.cells #[.func (.func g) rc cap] 114)
  exact post_zero (below_did hb t L) (hg.below hb)
set_option maxHeartbeats 1000000 in
theorem load_zero {i : Int} {g : FuncId} {rc cap : Array Value} {L : Lab} {w : World} {S : St} {o : Option (K ρ)} (hg : Good E L S w) :
    Calls Tryz.prog 91 #[.pointer (some ⟨E.a, 0, none⟩), .int .i64 i, .func (.func g) rc cap] w (Post E.cf R E t 0 L w (S, o)) := by
  go_enter Tryz.func91, Tryz.ntmps91
  go_wp2
  go_ret
  have hb : Below w.heap.size w (((w.alloc (.cells #[.pointer (some ⟨E.a, 0, none⟩)] 57)).alloc (.cells #[.int .i64 i] 3)).alloc (.cells #[.func (.func g) rc cap] 150)) :=
    ((((Below.refl _ _).alloc (Nat.le_refl _) _).alloc (by simp) _).alloc (by simp; omega) _)
  exact post_zero (below_did hb t L) (hg.below hb)
end
end Go.Proofs.YtgemjjpmoejgdaaGreat
/- Pop, as steps: the other closures, and the whole. -/
namespace Go.Proofs.YtgemjjpmoejgdaaGreat
open Go.RowKit
set_option maxRecDepth 100000
set_option linter.unusedVariables false

theorem turned_lt (old : Nat) (first : Int) : turned old first < 18446744073709551616 := by
  rw [turned_eq]
  by_cases h : first < -1 ∨ 4294967295 ≤ first
  · rw [headPacked_out _ _ h]; decide
  · rw [headPacked_in _ _ h]; exact packed_lt _ _ (by decide) rfl
section
variable {ρ : Type} {R : ρ → Arg → St → St × Option (K ρ)} {E : G} {t : Nat}
/-- Pop's closures, as values. -/
def popCv (bs bt bf : Nat) : Value := .func (.func 106) #[] #[.pointer (some ⟨bs, 0, none⟩), .pointer (some ⟨bt, 0, none⟩), .pointer (some ⟨bf, 0, none⟩)]
def popBv (bs bh bt bf : Nat) : Value := .func (.func 103) #[] #[.pointer (some ⟨bs, 0, none⟩), .pointer (some ⟨bh, 0, none⟩), .pointer (some ⟨bt, 0, none⟩), .pointer (some ⟨bf, 0, none⟩)]
def popAv (bt bs : Nat) : Value := .func (.func 101) #[] #[.pointer (some ⟨bt, 0, none⟩), .pointer (some ⟨bs, 0, none⟩)]

set_option maxHeartbeats 2000000 in
theorem popB_con (hR : RMono R) {m : Nat} {st : Stk} {f : FuncId} {head : Nat} {first : Int} {c : C ρ} {L : Lab} {w : World} {bs bh bt bf : Nat} (h64 : head < 18446744073709551616)
    (hs : StkAt w bs E f st.head) (hh : w.cell? ⟨bh, 0, none⟩ = some (.int .u64 head)) (ls : L bs = 0) (lh : L bh = 0)
    (hC : ∀ n, m = n + 1 → ∀ L' w', Ext t L w L' w' → ConSim E.cf R E t isB n L' w' (popCv bs bt bf) (.popC st first c)) :
    ConSim E.cf R E t isW m L w (popBv bs bh bt bf) (.popB st head first c) := by
  refine ⟨_, _, rfl, enters_pop11, ?_⟩
  intro a L' w' S ha hx hg hbd
  cases a with
  | w next =>
    obtain ⟨c0, c1, c2⟩ := hs.ext hx ls
    have q1 := hx.cell0 hh lh
    show Calls _ _ #[_, _, _, _, _] _ _
    have hcas : ∀ W, Below w'.heap.size w' W → Calls Tryz.prog 104 #[.pointer (some ⟨E.a, 0, none⟩), .int .i64 st.head, .int .u64 head, .int .u64 (turned head (wrap64 (toI next - 1)) : Nat), popCv bs bt bf] W (Post E.cf R E t m L' W (S, some (.cas st.head head (turned head (wrap64 (toI next - 1))) (.popC st first c)))) := by
      intro W hW
      cases m with
      | zero => exact cas_zero (hg.below hW)
      | succ n => exact cas_any hR (turned_lt _ _) (hg.below hW) (hC n rfl L' W (hx.trans (below_ext hW t L')))
    have HCAS := Go.Lib.hid hcas
    show Calls _ _ _ _ (Post E.cf R E t m L' w' (S, some (.cas st.head head (turned head (wrap64 (toI next - 1))) (.popC st first c))))
    have HT := Go.Lib.hid (stack_turned head h64 (wrap64 (toI next - 1)))
    have v1 : IntKind.i64.wrap (next : Int) = toI next := IntWalk.i64_left _
    have v2 : IntKind.i64.wrap (toI next - 1) = wrap64 (toI next - 1) := IntWalk.i64_left _
    clear hcas hC hx hg hbd ha hs hh
    generalize turned head (wrap64 (toI next - 1)) = tw at *
    unfold popCv at HCAS
    have c0' : ∀ d os, (Sort.grow (redrawn w' d) os).cell? ⟨bs, 0, none⟩ = some (.pointer (some ⟨E.a, 0, none⟩)) := fun d os => cell_regrown c0 d os
    have c1' : ∀ d os, (Sort.grow (redrawn w' d) os).cell? ⟨bs, 1, none⟩ = some (.int .i64 st.head) := fun d os => cell_regrown c1 d os
    have q1' : ∀ d os, (Sort.grow (redrawn w' d) os).cell? ⟨bh, 0, none⟩ = some (.int .u64 head) := fun d os => cell_regrown q1 d os
    go_enter Tryz.func103, Tryz.ntmps103
    go_wp2
    refine wp_region_below_tail 11 (by kernel_rfl) (by kernel_rfl) ?_
    simp only [List.take_succ_cons, List.take_zero, List.drop_succ_cons, List.drop_zero]
    repeat (go_big_quiet_step (first
      | (go_at_call 105; rename_i p; exact Calls.regrown_of (HT.out _))))
    refine wpQuiet_nil ?_
    intro W1 hw'
    obtain ⟨p, rfl⟩ := hw'
    have hb := below_regrown w' p.d p.os
    clear c0' c1' q1'
    generalize Sort.grow (redrawn w' p.d) p.os = W1 at *
    go_wp2_with fail
    refine (HCAS.out W1 hb).mono ?_
    rintro e w2 ⟨v2, L2, rfl, hd2, hg2, hc2⟩
    go_wp2
    go_ret
    exact ⟨v2, L2, rfl, (below_did hb t L').trans hd2, hg2, hc2⟩
  | _ => exact absurd ha (by simp [isW])

set_option maxHeartbeats 2000000 in
theorem popA_con (hR : RMono R) {m : Nat} {st : Stk} {f : FuncId} {vk : Value} {c : C ρ} {L : Lab} {w : World} {bs bt : Nat} (hso : StkOk E f (st.link E.cf))
    (hs : StkAt w bs E f st.head) (ht : w.cell? ⟨bt, 0, none⟩ = some vk) (ls : L bs = 0) (lt : L bt = 0) (hk : ConSim E.cf R E t isPop m L w vk c)
    (ih : ∀ k, k < m → ∀ L' w' S, Ext t L w L' w' → Good E L' S w' → Calls Tryz.prog 25 #[stkVal E f st.head, vk] w' (Post E.cf R E t k L' w' (S, some (popK st c)))) :
    ConSim E.cf R E t isW m L w (popAv bt bs) (.popA st c) := by
  refine ⟨_, _, rfl, enters_pop1, ?_⟩
  intro a L' w' S ha hx hg hbd
  cases a with
  | w head =>
    have h64 : head < 18446744073709551616 := ha
    have hs' := hs.ext hx ls
    have q1 := hx.cell0 ht lt
    have ls' := (hx.lab bs (cell_lt hs.c0)).trans ls
    have lt' := (hx.lab bt (cell_lt ht)).trans lt
    have hib : -1 ≤ headIdx head ∧ headIdx head ≤ 4294967294 := by unfold headIdx part; omega
    have hfield : ∀ (a b : Int) (w : World), (Instr.field 154 (.agg #[.int .i64 a, .int .i64 b]) 1).run Tryz.prog w = .ok (.int .i64 b) w := fun _ _ _ => by kernel_rfl
    have HO : Hid (∀ w, Calls Tryz.prog 102 #[.int .u64 head] w fun e w' => e = .returned (.agg #[.int .i64 (headCnt head : Nat), .int .i64 (headIdx head)]) ∧ Below w.heap.size w w') := fun w => of_HeadOf head w h64
    have hal : Below w'.heap.size w' (w'.alloc (.cells #[.int .u64 head] 92)) := (Below.refl _ _).alloc (Nat.le_refl _) _
    have e0 : (w'.alloc (.cells #[.int .u64 head] 92)).cell? ⟨w'.heap.size, 0, none⟩ = some (.int .u64 head) := by go_simp
    have lbh : L' w'.heap.size = 0 := hg.new _ (Nat.le_refl _)
    show Calls _ _ #[_, _, _] _ _
    by_cases hlt : headIdx head < 0
    · show Calls _ _ _ _ (Post E.cf R E t m L' w' (if headIdx head < 0 then app E.cf R c (.pop (-1) false) S else (S, some (.load (st.link E.cf (headIdx head)) (.popB st head (headIdx head) c)))))
      rw [if_pos hlt]
      have hbd2 : Bd (app E.cf R c (.pop (-1) false) S).1 := by
        have h : Bd ((if headIdx head < 0 then app E.cf R c (.pop (-1) false) S else (S, some (.load (st.link E.cf (headIdx head)) (.popB st head (headIdx head) c)))) : St × Option (K ρ)).1 := hbd
        rwa [if_pos hlt] at h
      obtain ⟨g, cap, rfl, hgf, hk⟩ := hk
      have hgf' : ∀ (args : Array Value) (w : World), (callFunc g args).run Tryz.prog w = .ok (.enter g args) w := hgf
      have HK : Hid (∀ W, Below w'.heap.size w' W → Calls Tryz.prog g ((Arg.pop (-1) false).vals ++ cap) W (Post E.cf R E t m L' W (app E.cf R c (.pop (-1) false) S))) := fun W hW => hk (.pop (-1) false) L' W S ⟨by decide, by decide⟩ (hx.trans (below_ext hW t L')) (hg.below hW) hbd2
      have hd : decide (headIdx head < 0) = true := by simpa using hlt
      have HB := Go.Lib.hid hal
      clear hbd hbd2 hk hg hx ih hs hs' hal hib
      generalize headIdx head = ix at *
      generalize headCnt head = cn at *
      generalize app E.cf R c (.pop (-1) false) S = rr at *
      go_enter Tryz.func101, Tryz.ntmps101
      go_wp2_with fail
      refine (HO.out _).mono ?_
      rintro e w1 ⟨rfl, hb1⟩
      have hb2 := HB.out.trans (hb1.mono HB.out.size)
      have q2 := below_cell hb2 q1
      have hal2 : Below w1.heap.size w1 (w1.alloc (.cells #[.int .i64 ix] 3)) := (Below.refl _ _).alloc (Nat.le_refl _) _
      have q3 := below_cell hal2 q2
      have HB3 := Go.Lib.hid (hb2.trans (hal2.mono hb2.size))
      have HKK := Go.Lib.hid (HK.out _ HB3.out)
      clear hb1 hb2 hal2 q1
      go_wp2_with (go_at_fn g; refine HKK.out.mono ?_; rintro e w2 ⟨v2, L2, rfl, hd2, hg2, hc2⟩)
      go_ret
      exact ⟨v2, L2, rfl, (below_did HB3.out t L').trans hd2, hg2, hc2⟩
    · show Calls _ _ _ _ (Post E.cf R E t m L' w' (if headIdx head < 0 then app E.cf R c (.pop (-1) false) S else (S, some (.load (st.link E.cf (headIdx head)) (.popB st head (headIdx head) c)))))
      rw [if_neg hlt]
      have hlen := hso.en
      have hlen' : ∀ (args : Array Value) (w : World), (callFunc f args).run Tryz.prog w = .ok (.enter f args) w := hlen
      have hd : decide (headIdx head < 0) = false := by simpa using hlt
      have HLN : Hid (∀ W, Below w'.heap.size w' W → Calls Tryz.prog f #[.pointer (some ⟨E.p, 0, none⟩), .int .i64 (headIdx head)] W (Qt (.int .i64 (st.link E.cf (headIdx head))) W)) := fun W hW => hso.ln (headIdx head) W (hg.below hW).pl
      have HLD : Hid (∀ (W : World) (bf : Nat), Below w'.heap.size w' W → w'.heap.size ≤ bf → W.cell? ⟨w'.heap.size, 0, none⟩ = some (.int .u64 head) → W.cell? ⟨bf, 0, none⟩ = some (.int .i64 (headIdx head)) →
          Calls Tryz.prog 91 #[.pointer (some ⟨E.a, 0, none⟩), .int .i64 (st.link E.cf (headIdx head)), popBv bs w'.heap.size bt bf] W (Post E.cf R E t m L' W (S, some (.load (st.link E.cf (headIdx head)) (.popB st head (headIdx head) c))))) := by
        intro W bf hW hbf hh hf
        have hxW := hx.trans (below_ext hW t L')
        cases m with
        | zero => exact load_zero (hg.below hW)
        | succ n =>
          refine load_any hR (hg.below hW) (popB_con hR h64 (hs'.below hW) hh ls' lbh ?_)
          intro n2 hn L2 w2 hx2
          subst hn
          have hx3 := hxW.trans hx2
          refine popC_con (hs'.below hW |>.ext hx2 ls') (hx2.cell0 (below_cell hW q1) lt') (hx2.cell0 hf (hg.new bf hbf)) ((hx2.lab bs (cell_lt (hs'.below hW).c0)).trans ls') ((hx2.lab bt (cell_lt (below_cell hW q1))).trans lt') ((hx2.lab bf (cell_lt hf)).trans (hg.new bf hbf)) ⟨by omega, by omega⟩ (ConSim.ext E.cf R E t (ConSim.down E.cf R E t (ConSim.down E.cf R E t hk)) hx3) ?_
          intro L3 w3 S3 hx4 hg3
          exact ih n2 (by omega) L3 w3 S3 (hx3.trans hx4) hg3
      obtain ⟨c0, c1, c2⟩ := hs'
      have HB := Go.Lib.hid hal
      clear hbd hk hg hx ih hs hal hib hso hlen ls' lt' lbh
      generalize hlkv : st.link E.cf (headIdx head) = lkv at *
      generalize headIdx head = ix at *
      generalize headCnt head = cn at *
      unfold popBv at HLD
      go_enter Tryz.func101, Tryz.ntmps101
      go_wp2_with fail
      refine (HO.out _).mono ?_
      rintro e w1 ⟨rfl, hb1⟩
      have hb2 := HB.out.trans (hb1.mono HB.out.size)
      have hal2 : Below w1.heap.size w1 (w1.alloc (.cells #[.int .i64 ix] 3)) := (Below.refl _ _).alloc (Nat.le_refl _) _
      have f0 : (w1.alloc (.cells #[.int .i64 ix] 3)).cell? ⟨w1.heap.size, 0, none⟩ = some (.int .i64 ix) := by go_simp
      have hb3 := hb2.trans (hal2.mono hb2.size)
      replace c0 := below_cell hb3 c0
      replace c2 := below_cell hb3 c2
      replace e0 := below_cell hal2 (below_cell hb1 e0)
      have hsz := hb2.size
      have HB3 := Go.Lib.hid hb3
      clear hb1 hb2 hal2 q1 c1 hb3
      go_wp2
      generalize (w1.alloc (.cells #[.int .i64 ix] 3)) = w2 at *
      have c0' : ∀ d os, (Sort.grow (redrawn w2 d) os).cell? ⟨bs, 0, none⟩ = some (.pointer (some ⟨E.a, 0, none⟩)) := fun d os => cell_regrown c0 d os
      have c2' : ∀ d os, (Sort.grow (redrawn w2 d) os).cell? ⟨bs, 2, none⟩ = some (.func (.func f) #[.pointer (some ⟨E.p, 0, none⟩)] #[]) := fun d os => cell_regrown c2 d os
      have f0' : ∀ d os, (Sort.grow (redrawn w2 d) os).cell? ⟨w1.heap.size, 0, none⟩ = some (.int .i64 ix) := fun d os => cell_regrown f0 d os
      refine wp_region_below_tail 7 (by kernel_rfl) (by kernel_rfl) ?_
      simp only [List.take_succ_cons, List.take_zero, List.drop_succ_cons, List.drop_zero]
      repeat (go_big_quiet_step (first
        | (go_at_fn f; rename_i p; exact Calls.regrown_of ((HLN.out _ (HB3.out.trans ((below_regrown w2 p.d p.os).mono HB3.out.size))).mono (fun _ _ h => h.below)))))
      refine wpQuiet_nil ?_
      intro W1 hw'
      obtain ⟨p, rfl⟩ := hw'
      have hb := below_regrown w2 p.d p.os
      have hb4 := HB3.out.trans (hb.mono HB3.out.size)
      have hld := HLD.out _ w1.heap.size hb4 hsz (below_cell hb e0) (below_cell hb f0)
      have HL := Go.Lib.hid hld
      have HB4 := Go.Lib.hid hb4
      clear c0' c2' f0' hld hb hb4
      generalize Sort.grow (redrawn w2 p.d) p.os = W1 at *
      go_wp2_with fail
      refine HL.out.mono ?_
      rintro e w9 ⟨v2, L2, rfl, hd2, hg2, hc2⟩
      go_wp2
      go_ret
      exact ⟨v2, L2, rfl, (below_did HB4.out t L').trans hd2, hg2, hc2⟩
  | _ => exact absurd ha (by simp [isW])
theorem ConSim.le {cf : Cf} {sh : Arg → Prop} {n m : Nat} {L : Lab} {w : World} {v : Value} {c : C ρ} (h : ConSim cf R E t sh m L w v c) (hn : n ≤ m) : ConSim cf R E t sh n L w v c := by
  induction m with
  | zero => obtain rfl : n = 0 := by omega
            exact h
  | succ m ih =>
    by_cases e : n = m + 1
    · subst e; exact h
    · exact ih (ConSim.down cf R E t h) (by omega)
set_option maxHeartbeats 2000000 in
/-- Pop is code that takes a stack's first. -/
theorem pop_any (hR : RMono R) {st : Stk} {f : FuncId} {vk : Value} {c : C ρ} (hso : StkOk E f (st.link E.cf)) : ∀ (m : Nat) (L : Lab) (w : World) (S : St), Good E L S w → ConSim E.cf R E t isPop m L w vk c →
    Calls Tryz.prog 25 #[stkVal E f st.head, vk] w (Post E.cf R E t (m + 1) L w (S, some (popK st c))) := by
  intro m
  induction m using Nat.strongRecOn with
  | ind m ih =>
    intro L w S hg hk
    obtain ⟨g, cap, hv, _⟩ := id hk
    subst hv
    have hbW : Below w.heap.size w ((w.alloc (.cells #[.pointer (some ⟨E.a, 0, none⟩), .int .i64 st.head, .func (.func f) #[.pointer (some ⟨E.p, 0, none⟩)] #[]] 60)).alloc (.cells #[.func (.func g) #[] cap] 63)) :=
      ((Below.refl _ w).alloc (Nat.le_refl _) _).alloc (by simp) _
    have f0 : ((w.alloc (.cells #[.pointer (some ⟨E.a, 0, none⟩), .int .i64 st.head, .func (.func f) #[.pointer (some ⟨E.p, 0, none⟩)] #[]] 60)).alloc (.cells #[.func (.func g) #[] cap] 63)).cell? ⟨w.heap.size, 0, none⟩ = some (.pointer (some ⟨E.a, 0, none⟩)) := by go_simp
    have f1 : ((w.alloc (.cells #[.pointer (some ⟨E.a, 0, none⟩), .int .i64 st.head, .func (.func f) #[.pointer (some ⟨E.p, 0, none⟩)] #[]] 60)).alloc (.cells #[.func (.func g) #[] cap] 63)).cell? ⟨w.heap.size, 1, none⟩ = some (.int .i64 st.head) := by go_simp
    have f2 : ((w.alloc (.cells #[.pointer (some ⟨E.a, 0, none⟩), .int .i64 st.head, .func (.func f) #[.pointer (some ⟨E.p, 0, none⟩)] #[]] 60)).alloc (.cells #[.func (.func g) #[] cap] 63)).cell? ⟨w.heap.size, 2, none⟩ = some (.func (.func f) #[.pointer (some ⟨E.p, 0, none⟩)] #[]) := by go_simp
    have f3 : ((w.alloc (.cells #[.pointer (some ⟨E.a, 0, none⟩), .int .i64 st.head, .func (.func f) #[.pointer (some ⟨E.p, 0, none⟩)] #[]] 60)).alloc (.cells #[.func (.func g) #[] cap] 63)).cell? ⟨w.heap.size + 1, 0, none⟩ = some (.func (.func g) #[] cap) := by go_simp
    have m0 : L w.heap.size = 0 := hg.new _ (Nat.le_refl _)
    have m1 : L (w.heap.size + 1) = 0 := hg.new _ (by omega)
    have hld : Calls Tryz.prog 91 #[.pointer (some ⟨E.a, 0, none⟩), .int .i64 st.head, popAv (w.heap.size + 1) w.heap.size] ((w.alloc (.cells #[.pointer (some ⟨E.a, 0, none⟩), .int .i64 st.head, .func (.func f) #[.pointer (some ⟨E.p, 0, none⟩)] #[]] 60)).alloc (.cells #[.func (.func g) #[] cap] 63)) (Post E.cf R E t (m + 1) L ((w.alloc (.cells #[.pointer (some ⟨E.a, 0, none⟩), .int .i64 st.head, .func (.func f) #[.pointer (some ⟨E.p, 0, none⟩)] #[]] 60)).alloc (.cells #[.func (.func g) #[] cap] 63)) (S, some (popK st c))) :=
      load_any hR (hg.below hbW) (popA_con hR hso ⟨f0, f1, f2⟩ f3 m0 m1 (ConSim.ext E.cf R E t hk (below_ext hbW t L)) (fun k hkm L' w' S' hx hg' =>
        (ih k hkm L' w' S' hg' (ConSim.ext E.cf R E t (hk.le (Nat.le_of_lt hkm)) ((below_ext hbW t L).trans hx))).mono fun e w2 hp => Post.down E.cf R E t hp))
    have HL := Go.Lib.hid hld
    have HB := Go.Lib.hid hbW
    clear ih hk hg hld hbW hso
    unfold stkVal
    unfold popAv at HL
    generalize popK st c = kk at *
    go_enter Tryz.func25, Tryz.ntmps25
    go_wp2_with fail
    refine HL.out.mono ?_
    rintro e w2 ⟨v2, L2, rfl, hd2, hg2, hc2⟩
    go_wp2
    go_ret
    exact ⟨v2, L2, rfl, (below_did HB.out t L).trans hd2, hg2, hc2⟩
end
end Go.Proofs.YtgemjjpmoejgdaaGreat
